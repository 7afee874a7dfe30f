/- No two alike. -/
import Derived.Test.YtdbedajaapamhaaGreatTabC
namespace Go.Proofs.YtdbedajaapamhaaGreat
open Go Go.K
set_option linter.unusedVariables false
set_option linter.unusedSimpArgs false
attribute [local irreducible] Calls Ev GL GC GQ GR Code.wp

/-- No two that stand beside each other are alike. -/

def nadj (l : List Int) : Prop := ∀ (i : Nat) (v : Int), l[i]? = some v → l[i + 1]? ≠ some v

theorem nadj_short {l : List Int} (h : l.length < 2) : nadj l := fun i v h1 h2 => by
  have := len_of h2; omega

abbrev I6 : Enc Int := encI .i64

theorem cp_get {ys : List Int} {junk : List Value} {i o : Nat} {q : Int} (h : ys[i]? = some q) (ho : o = i) : (I6.fl ys ++ junk)[o]? = some (.int .i64 q) := by
  subst ho
  have h1 := I6.fl_get (j := 0) h (by decide)
  have h2 := len_of h
  have h3 : I6.k = 1 := rfl
  rw [h3, Nat.mul_one, Nat.add_zero] at h1
  rw [List.getElem?_append_left (by rw [I6.fl_length, h3]; omega), h1]
  rfl

theorem cp_set {ys : List Int} {junk : List Value} {i o : Nat} {q : Int} (h : i < ys.length) (ho : o = i) : spliceO (I6.fl ys ++ junk) o [.int .i64 q] = some (I6.fl (ys.set i q) ++ junk) := by
  subst ho
  have h1 := I6.fl_set q h
  have h3 : I6.k = 1 := rfl
  have h4 : (I6.fl ys).length = ys.length := by rw [I6.fl_length, h3, Nat.mul_one]
  rw [h3, Nat.mul_one, spliceO_of (by rw [h4]; show o + 1 ≤ _; omega)] at h1
  rw [spliceO_of (by rw [List.length_append, h4]; show o + 1 ≤ _; omega)]
  rw [List.take_append_of_le_length (by omega), List.drop_append_of_le_length (by rw [h4]; show o + 1 ≤ _; omega), ← List.append_assoc]
  exact congrArg (fun z => some (z ++ junk)) (Option.some.inj h1)

theorem cp_sl {b x n c : Nat} (h : x < c) : K.slL (some ⟨b, 0, none⟩) ((x : Int)).toNat 1 c = some ⟨b, x, none⟩ := by
  unfold K.slL
  rw [Int.toNat_natCast, if_neg (by omega), Option.map_some, add_addr, Nat.zero_add, Nat.mul_one]

theorem cp_slice {b x n c : Nat} (h : x < c) : Value.slice (K.slL (some ⟨b, 0, none⟩) ((x : Int)).toNat 1 c) (n - ((x : Int)).toNat) (c - ((x : Int)).toNat) = .slice (some ⟨b, x, none⟩) (n - x) (c - x) := by
  rw [cp_sl (n := n) h, Int.toNat_natCast]

theorem mk102 : K.mkOf Tryz.prog 102 = some (2, [.int .i64 0], 8) := by kernel_rfl
/- slices.Compact[[]int64,int64] -/
set_option maxHeartbeats 2000000 in
set_option maxRecDepth 100000 in
theorem comp_con {l : List Int} {a : Option Addr} {c : Nat} {w : World} (hl : l.length < 1000000) (hd : Disj [trow a c 2 I6 l]) (ho : ∀ r ∈ ([trow a c 2 I6 l] : List Res), r.ok w.heap) :
    Calls Tryz.prog 76 #[.slice a l.length c] w fun e w' => ∃ a' : Option Addr, ∃ m' : Nat, ∃ c' : Nat, e = .returned (.slice a' m' c') ∧ (m' = l.length ↔ nadj l) ∧ Tr w [trow a c 2 I6 l] w' [] := by
  refine K.enter (args := [_]) Tryz.func76 rfl Tryz.ntmps76 rfl hd ho ?_
  refine K.GC.seq ?_
  refine K.GC.region ?_
  refine K.GL.det (K.e_assign rfl) rfl ?_
  refine K.GL.nil ?_
  refine K.GQ.go ?_
  refine K.GC.seq ?_
  refine K.GC.seq ?_
  refine K.GC.region ?_
  refine K.GL.det (K.e_move rfl) rfl ?_
  refine K.GL.det (K.e_len Tryz.underlying102 rfl) rfl ?_
  first | refine K.GL.det ((K.e_lt rfl rfl).yes (by first | omega | assumption | decide +kernel)) rfl ?_ | refine K.GL.det ((K.e_lt rfl rfl).no (by first | omega | assumption | decide +kernel)) rfl ?_ | refine K.GL.det (K.e_lt rfl rfl) rfl ?_
  refine K.GL.nil ?_
  refine K.GQ.go ?_
  refine K.GC.condB rfl (fun h1 => ?_) (fun h1 => ?_)
  · first
    | exact absurd h1 (by decide)
    | try replace h1 := of_decide_eq_true h1
      refine K.GC.seq ?_
      refine K.GC.region ?_
      refine K.GL.det (K.e_move rfl) rfl ?_
      refine K.GL.det (K.e_assign rfl) rfl ?_
      refine K.GL.nil ?_
      refine K.GQ.go ?_
      refine K.GC.ret ?_
      refine K.GQ.then_ret ?_
      refine K.GQ.ret1 Tryz.results76 rfl (fun w hT => ?_)
      first
        | exact ⟨a, l.length, c, rfl, ⟨fun _ => nadj_short (by omega), fun _ => rfl⟩, hT.nil⟩
        | exact ⟨_, _, _, rfl, ⟨fun h => absurd h (by simp only [Int.toNat_natCast]; omega), fun h => absurd (by have e1 : x - 1 + 1 = x := by omega
                                                                                                                 rw [e1, hq]; simp_all) (h (x - 1) p hp)⟩, hT.nil⟩
        | exact ⟨a, l.length, c, rfl, ⟨fun _ i v h1 h2 => hx3 i v (by have := len_of h2; omega) h1 h2, fun _ => rfl⟩, hT.nil⟩
  · first
    | exact absurd h1 (by decide)
    | try replace h1 := of_decide_eq_false h1
      refine K.GC.skip ?_
      refine K.GQ.go ?_
      refine K.GC.seq ?_
      refine K.GC.seq ?_
      refine K.GC.region ?_
      refine K.GL.det (K.e_assign rfl) rfl ?_
      refine K.GL.nil ?_
      refine K.GQ.go ?_
      refine K.GC.block ?_
      refine K.GC.loopk (α := Nat) [0, 60] rfl (fun x => [(3, .int .i64 (x : Int))]) (fun x => [trow a c 2 I6 l]) (fun x => 1 ≤ x ∧ x ≤ l.length ∧ ∀ (i : Nat) v, i + 1 < x → l[i]? = some v → l[i + 1]? ≠ some v) (fun x => (l.length - x)) 1 ⟨by omega, by omega, fun i v h => absurd h (by omega)⟩ (by first | ((repeat refine ⟨rfl, ?_⟩); exact trivial) | (simp only [List.take_zero, List.map_nil, List.flatMap_nil, List.append_nil]; (repeat refine ⟨rfl, ?_⟩); exact trivial)) (by first | exact K.sb | (dsimp only; exact K.sb) | (simp only [List.take_zero, List.map_nil, List.flatMap_nil, List.append_nil]; exact K.sb) | exact K.Sub.refl _) (fun x hI => ?_)
      obtain ⟨hx1, hx2, hx3⟩ := hI
      refine K.GC.seq ?_
      refine K.GC.seq ?_
      refine K.GC.region ?_
      refine K.GL.det (K.e_move rfl) rfl ?_
      refine K.GL.det (K.e_move rfl) rfl ?_
      refine K.GL.det (K.e_len Tryz.underlying102 rfl) rfl ?_
      first | refine K.GL.det ((K.e_lt rfl rfl).yes (by first | omega | assumption | decide +kernel)) rfl ?_ | refine K.GL.det ((K.e_lt rfl rfl).no (by first | omega | assumption | decide +kernel)) rfl ?_ | refine K.GL.det (K.e_lt rfl rfl) rfl ?_
      refine K.GL.nil ?_
      refine K.GQ.go ?_
      refine K.GC.condB rfl (fun h2 => ?_) (fun h2 => ?_)
      · first
        | exact absurd h2 (by decide)
        | try replace h2 := of_decide_eq_true h2
          refine K.GC.skip ?_
          refine K.GQ.go ?_
          refine K.GC.seq ?_
          refine K.GC.block ?_
          refine K.GC.seq ?_
          obtain ⟨q, hq⟩ : ∃ q, l[x]? = some q := get_ex (by omega)
          obtain ⟨p, hp⟩ : ∃ p, l[x - 1]? = some p := get_ex (by omega)
          refine K.D.GC.drawn0 10 [[], [], [0, 1], [0, 1, 2], [], [], [5], [4, 5, 6], [4, 5, 6, 7], [0, 1, 2, 3, 4, 5, 6, 7, 8]] [[], [], [0, 1], [2], [], [], [5], [4, 6], [7], [3, 8]] [[], [], [], [], [], [], [], [], [], []] [[], [], [], [], [], [], [], [], [], []] [] [0, 2, 3, 4, 5, 10, 11, 12, 13, 14, 15, 26, 27, 28, 29, 30, 31, 32, 33, 34, 35, 36, 37, 38, 39, 40, 41, 42, 43, 44, 45, 46, 47, 48, 49, 50, 51, 52, 53, 54, 55, 56, 57, 58, 59, 60] (by kernel_rfl) (by kernel_rfl) (by kernel_rfl) rfl ?_
          refine K.D.DW.det (b := []) (u := []) rfl rfl rfl (fun vs hf => K.e_move rfl) ?_
          refine K.D.DW.det (b := []) (u := []) rfl rfl rfl (fun vs hf => K.e_move rfl) ?_
          first | refine K.D.DW.det (b := [0, 1]) (u := []) rfl rfl rfl (fun vs hf => K.e_ixN sl102 rfl rfl rfl rfl (by omega)) ?_ | refine K.D.DW.det (b := [0, 1]) (u := []) rfl rfl rfl (fun vs hf => K.e_ix sl102 rfl rfl rfl rfl (by omega) (by omega)) ?_ | refine K.D.DW.det (b := [0, 1]) (u := []) rfl rfl rfl (fun vs hf => K.e_indexAddrS sl102 rfl rfl (by assumption) (by omega) (by omega)) ?_ | refine K.D.DW.det (b := [0, 1]) (u := []) rfl rfl rfl (fun vs hf => K.e_indexAddr sl102 rfl rfl (by omega) (by omega)) ?_
          first | refine K.D.DW.det (b := [2]) (u := []) rfl rfl rfl (fun vs hf => K.e_ldE Tryz.isAgg2 rfl rfl (by assumption) rfl) ?_ | refine K.D.DW.det (b := [2]) (u := []) rfl rfl rfl (fun vs hf => K.e_ldF Tryz.isAgg2 rfl rfl (by assumption) rfl) ?_ | refine K.D.DW.det (b := [2]) (u := []) rfl rfl rfl (fun vs hf => K.e_load Tryz.isAgg2 rfl rfl) ?_ | refine K.D.DW.det (b := [2]) (u := []) rfl rfl rfl (fun vs hf => K.e_load0 Tryz.isAgg2 rfl (by assumption)) ?_
          refine K.D.DW.det (b := []) (u := []) rfl rfl rfl (fun vs hf => K.e_move rfl) ?_
          refine K.D.DW.det (b := []) (u := []) rfl rfl rfl (fun vs hf => K.e_move rfl) ?_
          refine K.D.DW.det (b := [5]) (u := []) rfl rfl rfl (fun vs hf => (K.e_sub rfl rfl ⟨by omega, by omega⟩).cast_int (b := ((x - 1 : Nat) : Int)) (by omega)) ?_
          first | refine K.D.DW.det (b := [4, 6]) (u := []) rfl rfl rfl (fun vs hf => K.e_ixN sl102 rfl rfl rfl rfl (by omega)) ?_ | refine K.D.DW.det (b := [4, 6]) (u := []) rfl rfl rfl (fun vs hf => K.e_ix sl102 rfl rfl rfl rfl (by omega) (by omega)) ?_ | refine K.D.DW.det (b := [4, 6]) (u := []) rfl rfl rfl (fun vs hf => K.e_indexAddrS sl102 rfl rfl (by assumption) (by omega) (by omega)) ?_ | refine K.D.DW.det (b := [4, 6]) (u := []) rfl rfl rfl (fun vs hf => K.e_indexAddr sl102 rfl rfl (by omega) (by omega)) ?_
          first | refine K.D.DW.det (b := [7]) (u := []) rfl rfl rfl (fun vs hf => K.e_ldE Tryz.isAgg2 rfl rfl (by assumption) rfl) ?_ | refine K.D.DW.det (b := [7]) (u := []) rfl rfl rfl (fun vs hf => K.e_ldF Tryz.isAgg2 rfl rfl (by assumption) rfl) ?_ | refine K.D.DW.det (b := [7]) (u := []) rfl rfl rfl (fun vs hf => K.e_load Tryz.isAgg2 rfl rfl) ?_ | refine K.D.DW.det (b := [7]) (u := []) rfl rfl rfl (fun vs hf => K.e_load0 Tryz.isAgg2 rfl (by assumption)) ?_
          first | refine K.D.DW.det (b := [3, 8]) (u := []) rfl rfl rfl (fun vs hf => (K.e_eq rfl rfl).yes (by first | omega | assumption | decide +kernel)) ?_ | refine K.D.DW.det (b := [3, 8]) (u := []) rfl rfl rfl (fun vs hf => (K.e_eq rfl rfl).no (by first | omega | assumption | decide +kernel)) ?_ | refine K.D.DW.det (b := [3, 8]) (u := []) rfl rfl rfl (fun vs hf => K.e_eq rfl rfl) ?_
          refine K.D.DW.fin (fun vs hf => ?_)
          refine K.GL.keep [0, 2, 3, 4, 5, 10, 11, 12, 13, 14, 15, 16, 17, 18, 19, 20, 21, 22, 23, 24, 25, 26, 27, 28, 29, 30, 31, 32, 33, 34, 35, 36, 37, 38, 39, 40, 41, 42, 43, 44, 45, 46, 47, 48, 49, 50, 51, 52, 53, 54, 55, 56, 57, 58, 59, 60] rfl ?_
          refine K.D.GL.resE (L' := _) rfl ?_
          clear hf
          try clear vs
          refine K.GL.nil ?_
          refine K.GQ.go ?_
          refine K.GC.condB rfl (fun h3 => ?_) (fun h3 => ?_)
          · first
            | exact absurd h3 (by decide)
            | try replace h3 := of_decide_eq_true h3
              refine K.GC.seq ?_
              refine K.GC.row_open (E := 2) (k := 1) (xs := I6.fl l) (F := []) (by intro h; have := congrArg List.length h; rw [I6.fl_length] at this; simp only [List.length_nil] at this; have : I6.k = 1 := rfl; simp_all) (fun b junk hab hjl => ?_)
              subst hab
              have hcl : l.length ≤ c := by rw [List.length_append, I6.fl_length] at hjl; have h1 : I6.k = 1 := rfl; rw [h1] at hjl; omega
              refine K.GC.region ?_
              refine K.GL.det (K.e_move rfl) rfl ?_
              refine K.GL.det (K.e_move rfl) rfl ?_
              refine K.GL.det ((K.e_sliceL sl102 rfl rfl (by omega) (by omega)).cast (cp_slice (by omega))) rfl ?_
              refine K.GL.det (K.e_assign rfl) rfl ?_
              refine K.GL.nil ?_
              refine K.GQ.go ?_
              refine K.GC.seq ?_
              refine K.GC.seq ?_
              refine K.GC.region ?_
              refine K.GL.det (K.e_assign rfl) rfl ?_
              refine K.GL.nil ?_
              refine K.GQ.go ?_
              refine K.GC.block ?_
              refine K.GC.loopk (α := Nat × Nat × List Int) [0, 2, 4, 10, 11, 12, 13, 14, 15, 16, 17, 18, 19, 20, 21, 22, 23, 24, 25, 26, 27, 28, 54, 55, 56, 57, 58, 59, 60] rfl (fun y => [(3, .int .i64 (y.1 : Int)), (5, .int .i64 (y.2.1 : Int))]) (fun y => [cl b 2 (I6.fl y.2.2 ++ junk)]) (fun y => x ≤ y.1 ∧ y.1 < x + y.2.1 ∧ 1 ≤ y.2.1 ∧ y.2.1 ≤ l.length - x ∧ y.2.2.length = l.length) (fun y => (l.length - y.2.1)) (x, 1, l) ⟨by simp, by simp, by simp, by simp only; omega, rfl⟩ (by first | ((repeat refine ⟨rfl, ?_⟩); exact trivial) | (simp only [List.take_zero, List.map_nil, List.flatMap_nil, List.append_nil]; (repeat refine ⟨rfl, ?_⟩); exact trivial)) (by first | exact K.sb | (dsimp only; exact K.sb) | (simp only [List.take_zero, List.map_nil, List.flatMap_nil, List.append_nil]; exact K.sb) | exact K.Sub.refl _) (fun y hI => ?_)
              obtain ⟨k, j, ys⟩ := y
              obtain ⟨hy1, hy2, hy3, hy4, hy5⟩ := hI
              simp only at hy1 hy2 hy3 hy4 hy5 ⊢
              refine K.GC.seq ?_
              refine K.GC.seq ?_
              refine K.GC.region ?_
              refine K.GL.det (K.e_move rfl) rfl ?_
              refine K.GL.det (K.e_move rfl) rfl ?_
              refine K.GL.det (K.e_len Tryz.underlying102 rfl) rfl ?_
              first | refine K.GL.det ((K.e_lt rfl rfl).yes (by first | omega | assumption | decide +kernel)) rfl ?_ | refine K.GL.det ((K.e_lt rfl rfl).no (by first | omega | assumption | decide +kernel)) rfl ?_ | refine K.GL.det (K.e_lt rfl rfl) rfl ?_
              refine K.GL.nil ?_
              refine K.GQ.go ?_
              refine K.GC.condB rfl (fun h4 => ?_) (fun h4 => ?_)
              · first
                | exact absurd h4 (by decide)
                | try replace h4 := of_decide_eq_true h4
                  refine K.GC.skip ?_
                  refine K.GQ.go ?_
                  refine K.GC.seq ?_
                  refine K.GC.block ?_
                  refine K.GC.seq ?_
                  obtain ⟨u, hu⟩ : ∃ u, ys[x + j]? = some u := get_ex (by omega)
                  obtain ⟨v, hv⟩ : ∃ v, ys[x + j - 1]? = some v := get_ex (by omega)
                  refine K.D.GC.drawn0 10 [[], [], [0, 1], [0, 1, 2], [], [], [5], [4, 5, 6], [4, 5, 6, 7], [0, 1, 2, 3, 4, 5, 6, 7, 8]] [[], [], [0, 1], [2], [], [], [5], [4, 6], [7], [3, 8]] [[], [], [], [], [], [], [], [], [], []] [[], [], [], [], [], [], [], [], [], []] [] [0, 2, 3, 4, 5, 10, 11, 12, 13, 14, 15, 16, 17, 18, 19, 20, 21, 22, 23, 24, 25, 26, 27, 28, 29, 30, 31, 32, 33, 34, 45, 46, 47, 48, 49, 50, 51, 52, 53, 54, 55, 56, 57, 58, 59, 60] (by kernel_rfl) (by kernel_rfl) (by kernel_rfl) rfl ?_
                  refine K.D.DW.det (b := []) (u := []) rfl rfl rfl (fun vs hf => K.e_move rfl) ?_
                  refine K.D.DW.det (b := []) (u := []) rfl rfl rfl (fun vs hf => K.e_move rfl) ?_
                  first | refine K.D.DW.det (b := [0, 1]) (u := []) rfl rfl rfl (fun vs hf => K.e_ixN sl102 rfl rfl rfl rfl (by omega)) ?_ | refine K.D.DW.det (b := [0, 1]) (u := []) rfl rfl rfl (fun vs hf => K.e_ix sl102 rfl rfl rfl rfl (by omega) (by omega)) ?_ | refine K.D.DW.det (b := [0, 1]) (u := []) rfl rfl rfl (fun vs hf => K.e_indexAddrS sl102 rfl rfl (by assumption) (by omega) (by omega)) ?_ | refine K.D.DW.det (b := [0, 1]) (u := []) rfl rfl rfl (fun vs hf => K.e_indexAddr sl102 rfl rfl (by omega) (by omega)) ?_
                  refine K.D.DW.det (b := [2]) (u := []) rfl rfl rfl (fun vs hf => K.e_load Tryz.isAgg2 rfl (cp_get hu (by simp only [Int.toNat_natCast]; omega))) ?_
                  refine K.D.DW.det (b := []) (u := []) rfl rfl rfl (fun vs hf => K.e_move rfl) ?_
                  refine K.D.DW.det (b := []) (u := []) rfl rfl rfl (fun vs hf => K.e_move rfl) ?_
                  refine K.D.DW.det (b := [5]) (u := []) rfl rfl rfl (fun vs hf => (K.e_sub rfl rfl ⟨by omega, by omega⟩).cast_int (b := ((j - 1 : Nat) : Int)) (by omega)) ?_
                  first | refine K.D.DW.det (b := [4, 6]) (u := []) rfl rfl rfl (fun vs hf => K.e_ixN sl102 rfl rfl rfl rfl (by omega)) ?_ | refine K.D.DW.det (b := [4, 6]) (u := []) rfl rfl rfl (fun vs hf => K.e_ix sl102 rfl rfl rfl rfl (by omega) (by omega)) ?_ | refine K.D.DW.det (b := [4, 6]) (u := []) rfl rfl rfl (fun vs hf => K.e_indexAddrS sl102 rfl rfl (by assumption) (by omega) (by omega)) ?_ | refine K.D.DW.det (b := [4, 6]) (u := []) rfl rfl rfl (fun vs hf => K.e_indexAddr sl102 rfl rfl (by omega) (by omega)) ?_
                  refine K.D.DW.det (b := [7]) (u := []) rfl rfl rfl (fun vs hf => K.e_load Tryz.isAgg2 rfl (cp_get hv (by simp only [Int.toNat_natCast]; omega))) ?_
                  first | refine K.D.DW.det (b := [3, 8]) (u := []) rfl rfl rfl (fun vs hf => (K.e_ne rfl rfl).yes (by first | omega | assumption | decide +kernel)) ?_ | refine K.D.DW.det (b := [3, 8]) (u := []) rfl rfl rfl (fun vs hf => (K.e_ne rfl rfl).no (by first | omega | assumption | decide +kernel)) ?_ | refine K.D.DW.det (b := [3, 8]) (u := []) rfl rfl rfl (fun vs hf => K.e_ne rfl rfl) ?_
                  refine K.D.DW.fin (fun vs hf => ?_)
                  refine K.GL.keep [0, 2, 3, 4, 5, 10, 11, 12, 13, 14, 15, 16, 17, 18, 19, 20, 21, 22, 23, 24, 25, 26, 27, 28, 29, 30, 31, 32, 33, 34, 35, 36, 37, 38, 39, 40, 41, 42, 43, 44, 45, 46, 47, 48, 49, 50, 51, 52, 53, 54, 55, 56, 57, 58, 59, 60] rfl ?_
                  refine K.D.GL.resE (L' := _) rfl ?_
                  clear hf
                  try clear vs
                  refine K.GL.nil ?_
                  refine K.GQ.go ?_
                  refine K.GC.condB rfl (fun h5 => ?_) (fun h5 => ?_)
                  · first
                    | exact absurd h5 (by decide)
                    | try replace h5 := of_decide_eq_true h5
                      refine K.GC.seq ?_
                      refine K.GC.region ?_
                      refine K.GL.det (K.e_move rfl) rfl ?_
                      refine K.GL.det (K.e_move rfl) rfl ?_
                      refine K.GL.det (K.e_move rfl) rfl ?_
                      refine K.GL.det (K.e_move rfl) rfl ?_
                      refine K.GL.det (K.e_indexAddr sl102 rfl rfl (by omega) (by omega)) rfl ?_
                      refine K.GL.det (K.e_load Tryz.isAgg2 rfl (cp_get hu (by simp only [Int.toNat_natCast]; omega))) rfl ?_
                      refine K.GL.det (K.e_indexAddr sl102 rfl rfl (by omega) (by omega)) rfl ?_
                      refine K.GL.storeP rfl rfl rfl Tryz.sizeOf2 rfl rfl (cp_set (i := k) (by omega) (by simp only [Int.toNat_natCast]; omega)) ?_
                      refine K.GL.nil ?_
                      refine K.GQ.go ?_
                      refine K.GC.region ?_
                      refine K.GL.det (K.e_move rfl) rfl ?_
                      first | refine K.GL.det (K.e_add rfl rfl ⟨by omega, by omega⟩) rfl ?_ | refine K.GL.det (K.e_addw rfl rfl) rfl ?_
                      refine K.GL.det (K.e_assign rfl) rfl ?_
                      refine K.GL.nil ?_
                      refine K.GQ.block_normal ?_
                      refine K.GQ.go ?_
                      refine K.GC.region ?_
                      refine K.GL.det (K.e_move rfl) rfl ?_
                      first | refine K.GL.det (K.e_add rfl rfl ⟨by omega, by omega⟩) rfl ?_ | refine K.GL.det (K.e_addw rfl rfl) rfl ?_
                      refine K.GL.det (K.e_assign rfl) rfl ?_
                      refine K.GL.nil ?_
                      first
                        | exact K.GQ.round (k + 1, j + 1, ys.set k u) ⟨by simp only; omega, by simp only; omega, by simp only; omega, by simp only; omega, by simp only [List.length_set]; omega⟩ (by simp only; omega) (by (repeat refine ⟨rfl, ?_⟩); exact trivial) K.sb
                        | exact K.GQ.round (k, j + 1, ys) ⟨by simp only; omega, by simp only; omega, by simp only; omega, by simp only; omega, by simp only; omega⟩ (by simp only; omega) (by (repeat refine ⟨rfl, ?_⟩); exact trivial) K.sb
                  · first
                    | exact absurd h5 (by decide)
                    | try replace h5 := of_decide_eq_false h5
                      refine K.GC.skip ?_
                      refine K.GQ.block_normal ?_
                      refine K.GQ.go ?_
                      refine K.GC.region ?_
                      refine K.GL.det (K.e_move rfl) rfl ?_
                      first | refine K.GL.det (K.e_add rfl rfl ⟨by omega, by omega⟩) rfl ?_ | refine K.GL.det (K.e_addw rfl rfl) rfl ?_
                      refine K.GL.det (K.e_assign rfl) rfl ?_
                      refine K.GL.nil ?_
                      first
                        | exact K.GQ.round (k + 1, j + 1, ys.set k u) ⟨by simp only; omega, by simp only; omega, by simp only; omega, by simp only; omega, by simp only [List.length_set]; omega⟩ (by simp only; omega) (by (repeat refine ⟨rfl, ?_⟩); exact trivial) K.sb
                        | exact K.GQ.round (k, j + 1, ys) ⟨by simp only; omega, by simp only; omega, by simp only; omega, by simp only; omega, by simp only; omega⟩ (by simp only; omega) (by (repeat refine ⟨rfl, ?_⟩); exact trivial) K.sb
              · first
                | exact absurd h4 (by decide)
                | try replace h4 := of_decide_eq_false h4
                  refine K.GC.exit ?_
                  refine K.GQ.then_exit ?_
                  refine K.GQ.then_exit ?_
                  refine K.GQ.block_hit ?_
                  refine K.GQ.go ?_
                  refine K.GC.seq ?_
                  refine K.GC.region ?_
                  refine K.GL.det (K.e_move rfl) rfl ?_
                  refine K.GL.det (K.e_move rfl) rfl ?_
                  refine K.GL.det ((K.e_sliceL sl102 rfl rfl (by omega) (by omega)).cast (cp_slice (by omega))) rfl ?_
                  refine K.GL.clearB (cs' := (I6.fl ys ++ junk).take k ++ List.replicate (l.length - k) (.int .i64 0) ++ (I6.fl ys ++ junk).drop (k + (l.length - k))) mk102 rfl rfl (by rw [List.length_append, I6.fl_length]; have h1 : I6.k = 1 := rfl; rw [h1]; omega) (by omega) rfl ?_
                  refine K.GL.nil ?_
                  refine K.GQ.go ?_
                  refine K.GC.seq ?_
                  refine K.GC.region ?_
                  refine K.GL.det (K.e_move rfl) rfl ?_
                  refine K.GL.det (K.e_move rfl) rfl ?_
                  refine K.GL.det (K.e_sliceH sl102 rfl rfl (by omega) (by omega) (fun p hp => by cases hp; rfl)) rfl ?_
                  refine K.GL.det (K.e_assign rfl) rfl ?_
                  refine K.GL.nil ?_
                  refine K.GQ.go ?_
                  refine K.GC.ret ?_
                  refine K.GQ.block_ret ?_
                  refine K.GQ.then_ret ?_
                  refine K.GQ.then_ret ?_
                  refine K.GQ.block_ret ?_
                  refine K.GQ.then_ret ?_
                  refine K.GQ.ret1 Tryz.results76 rfl (fun w hT => ?_)
                  first
                    | exact ⟨a, l.length, c, rfl, ⟨fun _ => nadj_short (by omega), fun _ => rfl⟩, hT.nil⟩
                    | exact ⟨_, _, _, rfl, ⟨fun h => absurd h (by simp only [Int.toNat_natCast]; omega), fun h => absurd (by have e1 : x - 1 + 1 = x := by omega
                                                                                                                             rw [e1, hq]; simp_all) (h (x - 1) p hp)⟩, hT.nil⟩
                    | exact ⟨a, l.length, c, rfl, ⟨fun _ i v h1 h2 => hx3 i v (by have := len_of h2; omega) h1 h2, fun _ => rfl⟩, hT.nil⟩
          · first
            | exact absurd h3 (by decide)
            | try replace h3 := of_decide_eq_false h3
              refine K.GC.skip ?_
              refine K.GQ.block_normal ?_
              refine K.GQ.go ?_
              refine K.GC.region ?_
              refine K.GL.det (K.e_move rfl) rfl ?_
              first | refine K.GL.det (K.e_add rfl rfl ⟨by omega, by omega⟩) rfl ?_ | refine K.GL.det (K.e_addw rfl rfl) rfl ?_
              refine K.GL.det (K.e_assign rfl) rfl ?_
              refine K.GL.nil ?_
              exact K.GQ.round (x + 1) ⟨by omega, by omega, fun i v hi h1 h2 => by
                    rcases Nat.lt_or_ge (i + 1) x with h | h
                    · exact hx3 i v h h1 h2
                    · obtain rfl : i = x - 1 := by omega
                      have e1 : x - 1 + 1 = x := by omega
                      rw [e1, hq] at h2
                      rw [hp] at h1
                      cases h1; cases h2; contradiction⟩ (by omega) (by (repeat refine ⟨rfl, ?_⟩); exact trivial) (by first | exact K.sb | (dsimp only; exact K.sb))
      · first
        | exact absurd h2 (by decide)
        | try replace h2 := of_decide_eq_false h2
          refine K.GC.exit ?_
          refine K.GQ.then_exit ?_
          refine K.GQ.then_exit ?_
          refine K.GQ.block_hit ?_
          refine K.GQ.go ?_
          refine K.GC.seq ?_
          refine K.GC.region ?_
          refine K.GL.det (K.e_move rfl) rfl ?_
          refine K.GL.det (K.e_assign rfl) rfl ?_
          refine K.GL.nil ?_
          refine K.GQ.go ?_
          refine K.GC.ret ?_
          refine K.GQ.ret1 Tryz.results76 rfl (fun w hT => ?_)
          first
            | exact ⟨a, l.length, c, rfl, ⟨fun _ => nadj_short (by omega), fun _ => rfl⟩, hT.nil⟩
            | exact ⟨_, _, _, rfl, ⟨fun h => absurd h (by simp only [Int.toNat_natCast]; omega), fun h => absurd (by have e1 : x - 1 + 1 = x := by omega
                                                                                                                     rw [e1, hq]; simp_all) (h (x - 1) p hp)⟩, hT.nil⟩
            | exact ⟨a, l.length, c, rfl, ⟨fun _ i v h1 h2 => hx3 i v (by have := len_of h2; omega) h1 h2, fun _ => rfl⟩, hT.nil⟩
section
variable {ops : Array Oper} {Q : Exit → Act → World → Prop} {N : Nat} {U : Env} {w0 : World} {L0 L F : List Res} {ty : TypeId} {rest : List Oper} {pos : String} {after : Array Edge} {xs : List Operand} {tys : Array TypeId} {dT : Tmp}
theorem gl_comp_con {l : List Int} {a : Option Addr} {c : Nat}  {F1 : List Res}(hf : ∀ args w, (callFunc 76 args).run Tryz.prog w = .ok (.enter 76 args) w) (hx : opvs U xs = some [.slice a l.length c]) [p1 : PkT L a c 2 I6 l F1] (hl : l.length < 1000000) (hd : Nat.ble (dT + 1) N = true)
    (hr : ∀ (a' : Option Addr) (m' : Nat) (c' : Nat), (m' = l.length ↔ nadj l) → GL Tryz.prog ops Q rest N ((dT, .slice a' m' c') :: U) w0 L0 (F1)) : GL Tryz.prog ops Q (⟨some dT, .call ⟨.value (.func 76), xs.toArray, tys⟩, ty, pos, after, Option.none⟩ :: rest) N U w0 L0 L :=
  GL.callM (α := (Option Addr) × (Nat) × (Nat)) (l := [trow a c 2 I6 l]) (Pv := fun y v => v = .slice y.1 y.2.1 y.2.2 ∧ (y.2.1 = l.length ↔ nadj l)) (l' := fun y => []) hf hx (p1.out)
    (fun w hT => by
      have hT1 : Tr w0 L0 w ([trow a c 2 I6 l] ++ F1) := hT.sub (p1.out); have hd0 := Disj.left hT1.disj; have ho0 := fun r hr => hT1.ok r (List.mem_append_left _ hr); exact (comp_con hl hd0 ho0).mono fun e w' ⟨a', m', c', h1, g0, h2⟩ => ⟨(a', m', c'), _, h1, ⟨rfl, g0⟩, h2⟩) hd fun y v hv => by obtain ⟨rfl, g0⟩ := hv; exact hr y.1 y.2.1 y.2.2 g0
end
section
variable {ops : Array Oper} {Q : Exit → Act → World → Prop} {N : Nat} {U : Env} {w0 : World} {L0 L F : List Res} {ty : TypeId} {rest : List Oper} {pos : String} {after : Array Edge} {xs : List Operand} {tys : Array TypeId} {dT : Tmp}
end
end Go.Proofs.YtdbedajaapamhaaGreat
