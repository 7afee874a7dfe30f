/- A sector read back. -/
import Derived.Test.YtdbedajaapamhaaGreatTabF
namespace Go.Proofs.YtdbedajaapamhaaGreat
open Go Go.K
set_option linter.unusedVariables false
set_option linter.unusedSimpArgs false
attribute [local irreducible] Calls Ev GL GC GQ GR Code.wp

/-- What is left to read. -/

def drp (l : Bytes) : Nat → Bytes
  | 0 => (((l.drop 1).drop 4).drop 1).drop 1
  | x + 1 => ((drp l x).drop 4).drop 2

theorem drp_eq (l : Bytes) : ∀ x, drp l x = l.drop (7 + 6 * x)
  | 0 => by simp [drp, List.drop_drop]
  | x + 1 => by
    have h : 7 + 6 * (x + 1) = 7 + 6 * x + 4 + 2 := by omega
    rw [drp, drp_eq l x, List.drop_drop, List.drop_drop, h]

theorem drp_len (l : Bytes) (x : Nat) : (drp l x).length = l.length - (7 + 6 * x) := by rw [drp_eq, List.length_drop]

def extAt (l : Bytes) (i : Nat) : Ext := ⟨leN ((drp l i).take 4), leN (((drp l i).drop 4).take 2)⟩

abbrev cntOf (l : Bytes) : Int := leN (((l.drop 1).drop 4).take 1)

def parN (l : Bytes) (k : Nat) : Tab := ⟨leN ((l.drop 1).take 4), leN ((((l.drop 1).drop 4).drop 1).take 1) - 1, (List.range k).map (extAt l)⟩

def parT (l : Bytes) : Tab := parN l (min (cntOf l) 8).toNat

def getB (l : Bytes) : Bool := decide (l.length = 64) && decide (putT (parT l) = l)

def getT (l : Bytes) : Tab := if getB l = true then parT l else ⟨0, 0, []⟩

theorem parN_len (l : Bytes) (k : Nat) : (parN l k).exts.length = k := by simp [parN]

theorem parN_next (l : Bytes) (k : Nat) : (parN l (k + 1)).exts = (parN l k).exts ++ [extAt l k] := by
  unfold parN
  simp only [List.range_succ, List.map_append, List.map_cons, List.map_nil]

theorem leN_pos (l : Bytes) : 0 ≤ leN l := (leN_bd l).1

theorem leN_lt (l : Bytes) (k : Nat) : leN (l.take k) < 256 ^ k := by
  have h := (leN_bd (l.take k)).2
  have h1 : (256 : Int) ^ (l.take k).length ≤ 256 ^ k := by
    have h2 : (256 : Nat) ^ (l.take k).length ≤ 256 ^ k := Nat.pow_le_pow_right (by omega) (by rw [List.length_take]; omega)
    have h3 := Int.ofNat_le.2 h2
    rw [Int.natCast_pow, Int.natCast_pow] at h3
    exact h3
  omega

theorem getB_len {l : Bytes} (h : ¬ l.length = 64) : getB l = false := by unfold getB; rw [decide_eq_false h]; rfl

theorem getB_bad {l : Bytes} (h : ¬ putT (parT l) = l) : getB l = false := by unfold getB; rw [decide_eq_false h, Bool.and_false]

theorem getB_ok {l : Bytes} (h : l.length = 64) (h2 : putT (parT l) = l) : getB l = true := by unfold getB; rw [decide_eq_true h, decide_eq_true h2]; rfl

theorem getT_no {l : Bytes} (h : getB l = false) : getT l = ⟨0, 0, []⟩ := by unfold getT; rw [h]; rfl

theorem getT_yes {l : Bytes} (h : getB l = true) : getT l = parT l := by unfold getT; rw [if_pos h]

theorem parN_gen (l : Bytes) (k : Nat) : (parN l k).gen = leN ((l.drop 1).take 4) := rfl

theorem parN_opn (l : Bytes) (k : Nat) : (parN l k).opn = leN ((((l.drop 1).drop 4).drop 1).take 1) - 1 := rfl

theorem lay31 : K.layout Tryz.prog 31 = some ([.int .i64 0, .int .i64 0, .slice none 0 0], [(0, 1), (1, 1), (2, 1)]) := by kernel_rfl
theorem lay82 : K.layout Tryz.prog 82 = some ([.int .i64 0, .int .i64 0], [(0, 1), (1, 1)]) := by kernel_rfl
theorem mk29 : K.mkOf Tryz.prog 29 = some (82, [.int .i64 0, .int .i64 0], 16) := by kernel_rfl
/- turntable/table.Get -/
set_option maxHeartbeats 4000000 in
set_option maxRecDepth 100000 in
theorem tget_con {l : Bytes} {a : Option Addr} {c : Nat} {w : World} (hc : l.length ≤ c) (hl : l.length < 4611686018427387904) [Old w [] a (encB) (l)] :
    Calls Tryz.prog 42 #[.slice a l.length c] w fun e w' => ∃ a' : Option Addr, ∃ c' : Nat, e = .returned (.tuple #[.agg (tabC (getT l) a' c').toArray, .bool (getB l)]) ∧ Tr w [] w' [trow a' c' 82 encX (getT l).exts] := by
  refine K.enter0 (args := [_]) Tryz.func42 rfl Tryz.ntmps42 rfl ?_
  refine K.GC.seq ?_
  refine K.GC.region ?_
  refine K.GL.alloc Tryz.zeroValue31 rfl rfl (fun b2 => ?_)
  refine K.GL.det (K.e_assign rfl) rfl ?_
  refine K.GL.nil ?_
  refine K.GQ.go ?_
  refine K.GC.seq ?_
  refine K.GC.seq ?_
  refine K.GC.region ?_
  refine K.GL.det (K.e_move rfl) rfl ?_
  refine K.GL.det (K.e_len Tryz.underlying32 rfl) rfl ?_
  first | refine K.GL.det ((K.e_ne rfl rfl).yes (by first | omega | assumption | decide +kernel)) rfl ?_ | refine K.GL.det ((K.e_ne rfl rfl).no (by first | omega | assumption | decide +kernel)) rfl ?_ | refine K.GL.det (K.e_ne rfl rfl) rfl ?_
  refine K.GL.nil ?_
  refine K.GQ.go ?_
  refine K.GC.condB rfl (fun h1 => ?_) (fun h1 => ?_)
  · first
    | exact absurd h1 (by decide)
    | try replace h1 := of_decide_eq_true h1
      refine K.GC.seq ?_
      refine K.GC.region ?_
      refine K.GL.det (K.e_build lay31 rfl) rfl ?_
      refine K.GL.storeP (vs := tabC ⟨0, 0, []⟩ none 0) (cs' := tabC ⟨0, 0, []⟩ none 0) rfl rfl rfl Tryz.sizeOf31 rfl rfl (by exact spliceO_all rfl) ?_
      refine K.GL.det (K.e_assign rfl) rfl ?_
      refine K.GL.nil ?_
      refine K.GQ.go ?_
      refine K.GC.ret ?_
      refine K.GQ.then_ret ?_
      refine K.GQ.ret_ct Tryz.results42 Tryz.isAgg31 Tryz.sizeOf31 rfl rfl rfl (fun w hT => ?_)
      first
        | (have hb := getB_len (l := l) (by omega)
           rw [getT_no hb, hb]
           exact ⟨none, 0, rfl, hT.nil.trow_nil 82 encX⟩)
        | (have hb := getB_bad (l := l) (by assumption)
           rw [getT_no hb, hb]
           exact ⟨none, 0, rfl, hT.nil.trow_nil 82 encX⟩)
        | (have hb := getB_ok h64 (by first | assumption | exact Classical.not_not.1 (by assumption))
           rw [getT_yes hb, hb]
           exact ⟨a4, c4, rfl, hT.sub (L' := [trow a4 c4 82 encX (parN l (min (cntOf l) 8).toNat).exts]) K.sb⟩)
  · first
    | exact absurd h1 (by decide)
    | try replace h1 := of_decide_eq_false h1
      refine K.GC.skip ?_
      refine K.GQ.go ?_
      refine K.GC.seq ?_
      have h64 : l.length = 64 := by omega
      have hcn := leN_pos (((l.drop 1).drop 4).take 1)
      have hon := leN_pos ((((l.drop 1).drop 4).drop 1).take 1)
      have hox := leN_lt (((l.drop 1).drop 4).drop 1) 1
      refine K.GC.region ?_
      refine K.GL.alloc Tryz.zeroValue31 rfl rfl (fun b4 => ?_)
      refine K.GL.nil ?_
      refine K.GQ.go ?_
      refine K.GC.seq ?_
      refine K.GC.region ?_
      refine K.GL.det (K.e_move rfl) rfl ?_
      refine K.GL.partL (j := 1) sl32 rfl rfl rfl rfl (by omega) (by omega) rfl (fun a17 hp17 hc17 => ?_)
      refine gl_take_con (wd := 4) Tryz.call52 rfl (by first | assumption | omega | rfl | decide) (by simp only [List.length_drop, drp_len]; omega) (by simp only [List.length_drop, drp_len]; omega) rfl (fun a18 hp18 => ?_)
      refine K.GL.det (K.e_move rfl) rfl ?_
      refine K.GL.det (K.e_extract rfl rfl) rfl ?_
      refine K.GL.det (K.e_extract rfl rfl) rfl ?_
      refine K.GL.det (K.e_assign rfl) rfl ?_
      refine K.GL.det (K.e_assign rfl) rfl ?_
      refine K.GL.nil ?_
      refine K.GQ.go ?_
      refine K.GC.seq ?_
      refine K.GC.region ?_
      refine K.GL.det (K.e_move rfl) rfl ?_
      refine gl_take_con (wd := 1) Tryz.call52 rfl (by first | assumption | omega | rfl | decide) (by simp only [List.length_drop, drp_len]; omega) (by simp only [List.length_drop, drp_len]; omega) rfl (fun a23 hp23 => ?_)
      refine K.GL.det (K.e_move rfl) rfl ?_
      refine K.GL.det (K.e_extract rfl rfl) rfl ?_
      refine K.GL.det (K.e_extract rfl rfl) rfl ?_
      refine K.GL.det (K.e_assign rfl) rfl ?_
      refine K.GL.det (K.e_assign rfl) rfl ?_
      refine K.GL.nil ?_
      refine K.GQ.go ?_
      refine K.GC.seq ?_
      refine K.GC.region ?_
      refine K.GL.det (K.e_move rfl) rfl ?_
      refine gl_take_con (wd := 1) Tryz.call52 rfl (by first | assumption | omega | rfl | decide) (by simp only [List.length_drop, drp_len]; omega) (by simp only [List.length_drop, drp_len]; omega) rfl (fun a28 hp28 => ?_)
      refine K.GL.det (K.e_move rfl) rfl ?_
      refine K.GL.det (K.e_extract rfl rfl) rfl ?_
      refine K.GL.det (K.e_extract rfl rfl) rfl ?_
      refine K.GL.det (K.e_assign rfl) rfl ?_
      refine K.GL.det (K.e_assign rfl) rfl ?_
      refine K.GL.nil ?_
      refine K.GQ.go ?_
      refine K.GC.seq ?_
      refine K.GC.region ?_
      refine K.GL.det (K.e_move rfl) rfl ?_
      refine K.GL.det (K.e_move rfl) rfl ?_
      first | refine K.GL.det (K.e_sub rfl rfl ⟨by omega, by omega⟩) rfl ?_ | refine K.GL.det (K.e_subw rfl rfl) rfl ?_
      first | refine K.GL.det (K.e_fa fo31_0 rfl) rfl ?_ | refine K.GL.det (K.e_fieldAddr fo31_0 rfl) rfl ?_
      refine K.GL.store rfl rfl rfl Tryz.sizeOf2 rfl rfl ?_
      first | refine K.GL.det (K.e_fa fo31_1 rfl) rfl ?_ | refine K.GL.det (K.e_fieldAddr fo31_1 rfl) rfl ?_
      refine K.GL.store rfl rfl rfl Tryz.sizeOf3 rfl rfl ?_
      refine K.GL.nil ?_
      refine K.GQ.go ?_
      refine K.GC.seq ?_
      refine K.GC.seq ?_
      refine K.GC.region ?_
      refine K.GL.det (K.e_move rfl) rfl ?_
      refine K.GL.det (K.e_min rfl rfl) rfl ?_
      refine K.GL.det (K.e_move rfl) rfl ?_
      refine K.GL.nil ?_
      refine K.GQ.go ?_
      refine K.GC.block ?_
      refine K.GC.trow0 82 encX ?_
      refine K.GC.loopk (α := Nat × (Option Addr × Nat) × (Option Addr × Nat)) [0, 2, 3, 4, 37, 59, 60, 61, 62, 63, 64, 65] rfl (fun x => [(6, .slice x.2.1.1 (drp l x.1).length x.2.1.2), (38, .int .i64 (x.1 : Int))]) (fun x => [trow x.2.2.1 x.2.2.2 82 encX (parN l x.1).exts, cl b4 31 (tabC (parN l x.1) x.2.2.1 x.2.2.2), cl b2 31 (tabC ⟨0, 0, []⟩ none 0)]) (fun x => (x.1 : Int) ≤ min (cntOf l) 8 ∧ Part x.2.1.1 a encB l (drp l x.1) ∧ (drp l x.1).length ≤ x.2.1.2) (fun x => (8 - x.1)) (0, (a28, c - 1 - 4 - 1 - 1), (none, 0)) ⟨by simp only [cntOf]; omega, ((hp17.trans hp18).trans hp23).trans hp28, by simp only [drp_len]; omega⟩ (by first | ((repeat refine ⟨rfl, ?_⟩); exact trivial) | (simp only [List.take_zero, List.map_nil, List.flatMap_nil, List.append_nil]; (repeat refine ⟨rfl, ?_⟩); exact trivial)) (K.Sub.refl _) (fun x hI => ?_)
      obtain ⟨x, ⟨a5, c5⟩, a4, c4⟩ := x
      simp only at hI ⊢
      obtain ⟨hI, hp5, hc5⟩ := hI
      simp only [cntOf] at hI
      have hdl := drp_len l x
      refine K.GC.seq ?_
      refine K.GC.region ?_
      first | refine K.GL.det ((K.e_lt rfl rfl).yes (by first | omega | assumption | decide +kernel)) rfl ?_ | refine K.GL.det ((K.e_lt rfl rfl).no (by first | omega | assumption | decide +kernel)) rfl ?_ | refine K.GL.det (K.e_lt rfl rfl) rfl ?_
      refine K.GL.nil ?_
      refine K.GQ.go ?_
      refine K.GC.seq ?_
      refine K.GC.condB rfl (fun h2 => ?_) (fun h2 => ?_)
      · first
        | exact absurd h2 (by decide)
        | try replace h2 := of_decide_eq_true h2
          refine K.GC.skip ?_
          refine K.GQ.go ?_
          refine K.GC.seq ?_
          refine K.GC.block ?_
          refine K.GC.seq ?_
          refine K.GC.region ?_
          refine K.GL.det (K.e_assign rfl) rfl ?_
          refine K.GL.det (K.e_assign rfl) rfl ?_
          refine K.GL.nil ?_
          refine K.GQ.go ?_
          refine K.GC.seq ?_
          refine K.GC.region ?_
          refine K.GL.det (K.e_move rfl) rfl ?_
          refine gl_take_con (wd := 4) Tryz.call52 rfl (by first | assumption | omega | rfl | decide) (by simp only [List.length_drop, drp_len]; omega) (by simp only [List.length_drop, drp_len]; omega) rfl (fun a42 hp42 => ?_)
          refine K.GL.det (K.e_move rfl) rfl ?_
          refine K.GL.det (K.e_extract rfl rfl) rfl ?_
          refine K.GL.det (K.e_extract rfl rfl) rfl ?_
          refine K.GL.det (K.e_assign rfl) rfl ?_
          refine K.GL.det (K.e_assign rfl) rfl ?_
          refine K.GL.nil ?_
          refine K.GQ.go ?_
          refine K.GC.seq ?_
          refine K.GC.region ?_
          refine K.GL.det (K.e_move rfl) rfl ?_
          refine gl_take_con (wd := 2) Tryz.call52 rfl (by first | assumption | omega | rfl | decide) (by simp only [List.length_drop, drp_len]; omega) (by simp only [List.length_drop, drp_len]; omega) rfl (fun a47 hp47 => ?_)
          refine K.GL.det (K.e_move rfl) rfl ?_
          refine K.GL.det (K.e_extract rfl rfl) rfl ?_
          refine K.GL.det (K.e_extract rfl rfl) rfl ?_
          refine K.GL.det (K.e_assign rfl) rfl ?_
          refine K.GL.det (K.e_assign rfl) rfl ?_
          refine K.GL.nil ?_
          refine K.GQ.go ?_
          have hpl := parN_len l x
          refine K.GC.region ?_
          first | refine K.GL.det (K.e_fa fo31_2 rfl) rfl ?_ | refine K.GL.det (K.e_fieldAddr fo31_2 rfl) rfl ?_
          first | refine K.GL.det (K.e_ldE Tryz.isAgg29 rfl rfl (by assumption) rfl) rfl ?_ | refine K.GL.det (K.e_ldF Tryz.isAgg29 rfl rfl (by assumption) rfl) rfl ?_ | refine K.GL.det (K.e_load Tryz.isAgg29 rfl rfl) rfl ?_ | refine K.GL.det (K.e_load0 Tryz.isAgg29 rfl (by assumption)) rfl ?_
          refine K.GL.det (K.e_move rfl) rfl ?_
          refine K.GL.det (K.e_move rfl) rfl ?_
          refine K.GL.det (K.e_build lay82 rfl) rfl ?_
          refine K.GL.buildT encX [extAt l x] mk29 rfl rfl rfl rfl rfl (fun b55 => ?_)
          first | refine K.GL.appendT mk29 rfl rfl rfl rfl rfl (by first | omega | (simp only [List.length_cons, List.length_nil, List.length_append]; omega)) (by first | omega | (simp only [List.length_cons, List.length_nil, List.length_append]; omega)) rfl (fun a56 c56 => ?_) | (refine K.GL.trow0 82 encX ?_; refine K.GL.appendT mk29 rfl rfl rfl rfl rfl (by first | omega | (simp only [List.length_cons, List.length_nil, List.length_append]; omega)) (by first | omega | (simp only [List.length_cons, List.length_nil, List.length_append]; omega)) rfl (fun a56 c56 => ?_))
          first | refine K.GL.det (K.e_fa fo31_2 rfl) rfl ?_ | refine K.GL.det (K.e_fieldAddr fo31_2 rfl) rfl ?_
          refine K.GL.store rfl rfl rfl Tryz.sizeOf29 rfl rfl ?_
          refine K.GL.nil ?_
          refine K.GQ.block_normal ?_
          refine K.GQ.go ?_
          refine K.GC.region ?_
          first | refine K.GL.det (K.e_add rfl rfl ⟨by omega, by omega⟩) rfl ?_ | refine K.GL.det (K.e_addw rfl rfl) rfl ?_
          refine K.GL.det (K.e_move rfl) rfl ?_
          refine K.GL.nil ?_
          exact K.GQ.round (x + 1, (a47, c5 - 4 - 2), (a56, c56)) ⟨by simp only [cntOf]; omega, (hp5.trans hp42).trans hp47, by rw [drp_len] at *; simp only; omega⟩ (by simp only; omega) (by (repeat refine ⟨rfl, ?_⟩); exact trivial) (by simp only [tabC, parN_next, parN_gen, parN_opn]; exact K.sb)
      · first
        | exact absurd h2 (by decide)
        | try replace h2 := of_decide_eq_false h2
          refine K.GC.exit ?_
          refine K.GQ.then_exit ?_
          refine K.GQ.then_exit ?_
          refine K.GQ.block_hit ?_
          refine K.GQ.go ?_
          refine K.GC.seq ?_
          refine K.GC.seq ?_
          obtain rfl : x = (min (cntOf l) 8).toNat := by simp only [cntOf]; omega
          refine K.GC.region ?_
          first | refine K.GL.det (K.e_ldA Tryz.isAgg31 Tryz.sizeOf31 rfl rfl (by assumption)) rfl ?_ | refine K.GL.det (K.e_ldAF Tryz.isAgg31 Tryz.sizeOf31 rfl rfl (by assumption) rfl) rfl ?_ | refine K.GL.det (K.e_loads Tryz.isAgg31 Tryz.sizeOf31 rfl rfl) rfl ?_
          refine gl_tput_con Tryz.call28 rfl (by rw [parN_len]; omega) rfl (fun a60 c60 hc60 => ?_)
          refine K.GL.det (K.e_move rfl) rfl ?_
          refine K.GL.det (ev_beq_con Tryz.call53 rfl ) rfl ?_
          first | refine K.GL.det (K.e_notp rfl) rfl ?_ | refine K.GL.det (K.e_not rfl) rfl ?_
          refine K.GL.nil ?_
          refine K.GQ.go ?_
          refine K.GC.condB rfl (fun h3 => ?_) (fun h3 => ?_)
          · first
            | exact absurd h3 (by decide)
            | try replace h3 := of_decide_eq_true h3
              refine K.GC.seq ?_
              refine K.GC.region ?_
              refine K.GL.det (K.e_build lay31 rfl) rfl ?_
              refine K.GL.storeP (vs := tabC ⟨0, 0, []⟩ none 0) (cs' := tabC ⟨0, 0, []⟩ none 0) rfl rfl rfl Tryz.sizeOf31 rfl rfl (by exact spliceO_all rfl) ?_
              refine K.GL.det (K.e_assign rfl) rfl ?_
              refine K.GL.nil ?_
              refine K.GQ.go ?_
              refine K.GC.ret ?_
              refine K.GQ.then_ret ?_
              refine K.GQ.ret_ct Tryz.results42 Tryz.isAgg31 Tryz.sizeOf31 rfl rfl rfl (fun w hT => ?_)
              first
                | (have hb := getB_len (l := l) (by omega)
                   rw [getT_no hb, hb]
                   exact ⟨none, 0, rfl, hT.nil.trow_nil 82 encX⟩)
                | (have hb := getB_bad (l := l) (by assumption)
                   rw [getT_no hb, hb]
                   exact ⟨none, 0, rfl, hT.nil.trow_nil 82 encX⟩)
                | (have hb := getB_ok h64 (by first | assumption | exact Classical.not_not.1 (by assumption))
                   rw [getT_yes hb, hb]
                   exact ⟨a4, c4, rfl, hT.sub (L' := [trow a4 c4 82 encX (parN l (min (cntOf l) 8).toNat).exts]) K.sb⟩)
          · first
            | exact absurd h3 (by decide)
            | try replace h3 := of_decide_eq_false h3
              refine K.GC.skip ?_
              refine K.GQ.go ?_
              refine K.GC.seq ?_
              refine K.GC.region ?_
              first | refine K.GL.det (K.e_ldA Tryz.isAgg31 Tryz.sizeOf31 rfl rfl (by assumption)) rfl ?_ | refine K.GL.det (K.e_ldAF Tryz.isAgg31 Tryz.sizeOf31 rfl rfl (by assumption) rfl) rfl ?_ | refine K.GL.det (K.e_loads Tryz.isAgg31 Tryz.sizeOf31 rfl rfl) rfl ?_
              refine K.GL.storeP (vs := tabC (parT l) a4 c4) (cs' := tabC (parT l) a4 c4) rfl rfl rfl Tryz.sizeOf31 rfl rfl (by exact spliceO_all rfl) ?_
              refine K.GL.det (K.e_assign rfl) rfl ?_
              refine K.GL.nil ?_
              refine K.GQ.go ?_
              refine K.GC.ret ?_
              refine K.GQ.ret_ct Tryz.results42 Tryz.isAgg31 Tryz.sizeOf31 rfl rfl rfl (fun w hT => ?_)
              first
                | (have hb := getB_len (l := l) (by omega)
                   rw [getT_no hb, hb]
                   exact ⟨none, 0, rfl, hT.nil.trow_nil 82 encX⟩)
                | (have hb := getB_bad (l := l) (by assumption)
                   rw [getT_no hb, hb]
                   exact ⟨none, 0, rfl, hT.nil.trow_nil 82 encX⟩)
                | (have hb := getB_ok h64 (by first | assumption | exact Classical.not_not.1 (by assumption))
                   rw [getT_yes hb, hb]
                   exact ⟨a4, c4, rfl, hT.sub (L' := [trow a4 c4 82 encX (parN l (min (cntOf l) 8).toNat).exts]) K.sb⟩)
section
variable {ops : Array Oper} {Q : Exit → Act → World → Prop} {N : Nat} {U : Env} {w0 : World} {L0 L F : List Res} {ty : TypeId} {rest : List Oper} {pos : String} {after : Array Edge} {xs : List Operand} {tys : Array TypeId} {dT : Tmp}
theorem gl_tget_con {l : Bytes} {a : Option Addr} {c : Nat} (hf : ∀ args w, (callFunc 42 args).run Tryz.prog w = .ok (.enter 42 args) w) (hx : opvs U xs = some [.slice a l.length c]) (hc : l.length ≤ c) (hl : l.length < 4611686018427387904) [o0 : RdC w0 L0 [] L a (encB) (l)] (hd : Nat.ble (dT + 1) N = true)
    (hr : ∀ (a' : Option Addr) (c' : Nat), GL Tryz.prog ops Q rest N ((dT, .tuple #[.agg (tabC (getT l) a' c').toArray, .bool (getB l)]) :: U) w0 L0 (trow a' c' 82 encX (getT l).exts :: L)) : GL Tryz.prog ops Q (⟨some dT, .call ⟨.value (.func 42), xs.toArray, tys⟩, ty, pos, after, Option.none⟩ :: rest) N U w0 L0 L :=
  GL.callM (α := (Option Addr) × (Nat)) (l := []) (Pv := fun y v => v = .tuple #[.agg (tabC (getT l) y.1 y.2).toArray, .bool (getB l)]) (l' := fun y => [trow y.1 y.2 82 encX (getT l).exts]) hf hx (Sub.refl _)
    (fun w hT => by
      have _o0 := o0.out w hT; exact (tget_con hc hl).mono fun e w' ⟨a', c', h1, h2⟩ => ⟨(a', c'), _, h1, rfl, h2⟩) hd fun y v hv => by subst hv; exact hr y.1 y.2 
end
section
variable {ops : Array Oper} {Q : Exit → Act → World → Prop} {N : Nat} {U : Env} {w0 : World} {L0 L F : List Res} {ty : TypeId} {rest : List Oper} {pos : String} {after : Array Edge} {xs : List Operand} {tys : Array TypeId} {dT : Tmp}
end
end Go.Proofs.YtdbedajaapamhaaGreat
