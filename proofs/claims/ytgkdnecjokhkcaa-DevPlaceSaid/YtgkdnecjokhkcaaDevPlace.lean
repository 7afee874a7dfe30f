/- DevPlace returns true for all calls, any sector and any hurt, and turns nothing. -/
import Derived.ProofKit
import Derived.OpenShut
import Derived.SizedLaws
import Derived.Lib.SmallJoins
import Derived.Test.YtgkdnecjokhkcaaRows
import Derived.Test.YtgkdnecjokhkcaaDevO
namespace Go.Proofs.Ytgkdnecjokhkcaa
open Go Go.K Go.ChangeShapes Go.WideShapes Go.ChangeAt Go.RowKit Go.Joins
set_option linter.unusedVariables false
set_option linter.unusedSimpArgs false
attribute [local irreducible] Calls Ev GL GC GQ GR Code.wp
theorem own : ownKnob Try.prog.godebug = none := by kernel_rfl
theorem laidOut : laidOutB Try.prog = true := by kernel_rfl
theorem was_set {f e : Nat → Bytes} {o y : Nat} (hy : y < 8) (ho : o = y) : spliceO (sl8 fun j => if j < y then f j else e j) o [str (f y)] = some (sl8 fun j => if j < y + 1 then f j else e j) := by
  rw [sl8_set hy ho]
  congr 2
  funext j
  by_cases h1 : j = y
  · subst h1; rw [if_pos rfl, if_pos (by omega)]
  · rw [if_neg h1]
    by_cases h2 : j < y
    · rw [if_pos h2, if_pos (by omega)]
    · rw [if_neg h2, if_neg (by omega)]
theorem was_all {f e : Nat → Bytes} : (sl8 fun j => if j < 8 then f j else e j) = sl8 f := by
  unfold sl8
  refine List.map_congr_left fun j hj => ?_
  show str (if j < 8 then f j else e j) = _
  rw [if_pos (List.mem_range.1 hj)]
theorem was_now {f e : Nat → Bytes} {o y : Nat} (hy : y < 8) (ho : o = y) : (sl8 fun j => if j < y then f j else e j)[o]? = some (str (e y)) := by
  rw [sl8_get hy ho, if_neg (by omega)]
def mineN (l : List Nat) (w : Int) (u : Nat) : Nat := if 0 ≤ w ∧ l[w.toNat]? = some u then 1 else 0
theorem mine_cases {l : List Nat} (w : Int) (u : Nat) : (mineN l w u = 0 ∧ w < 0) ∨ (mineN l w u = 0 ∧ 0 ≤ w ∧ (l.length : Int) ≤ w) ∨ (∃ v, mineN l w u = 0 ∧ (0 ≤ w ∧ w < l.length) ∧ l[w.toNat]? = some v ∧ (v : Int) ≠ u) ∨
    ∃ v, mineN l w u = 1 ∧ (0 ≤ w ∧ w < l.length) ∧ l[w.toNat]? = some v ∧ (v : Int) = u := by
  by_cases h1 : w < 0
  · exact .inl ⟨if_neg fun h => by omega, h1⟩
  · by_cases h2 : (l.length : Int) ≤ w
    · exact .inr (.inl ⟨if_neg fun h => by have := (List.getElem?_eq_some_iff.1 h.2).1; omega, by omega, h2⟩)
    · obtain ⟨v, hv⟩ : ∃ v, l[w.toNat]? = some v := get_ex (by omega)
      by_cases h3 : v = u
      · subst h3; exact .inr (.inr (.inr ⟨v, if_pos ⟨by omega, hv⟩, ⟨by omega, by omega⟩, hv, rfl⟩))
      · exact .inr (.inr (.inl ⟨v, if_neg fun h => h3 (by rw [hv] at h; exact Option.some.inj h.2), ⟨by omega, by omega⟩, hv, by omega⟩))
theorem place_key {s2 s3 : DS} {u n : Nat} {w a : Int} {b : Nat} {x3 x2 : UInt8} (hb : s3.A u = s2.A u ∨ (0 ≤ w ∧ s2.list[w.toNat]? = some u ∧ 0 ≤ a ∧ s3.A u = turnS (s2.A u) a.toNat b)) (hbits : b < 4294967296) (h3 : (s3.A u).1[n]? = some x3) (h2 : (s2.A u).1[n]? = some x2) :
    x3 = x2 ∨ ((x3.toNat : Int) ≠ x2.toNat ∧ mineN s2.list w u = 1 ∧ ¬ (8 * (n : Int) + 7 < a) ∧ ¬ (8 * (n : Int) - 31 > a)) := by
  by_cases e : x3 = x2
  · exact .inl e
  · right
    rcases hb with hb | ⟨e1, e2, e3, e4⟩
    · rw [hb, h2] at h3
      exact absurd (Option.some.inj h3).symm e
    · have no : ¬ (8 * n + 7 < a.toNat ∨ a.toNat + 31 < 8 * n) := fun hn => by
        rw [e4, turnS_get hbits hn, h2] at h3
        exact e (Option.some.inj h3).symm
      refine ⟨fun hh => e (UInt8.toNat_inj.1 (by omega)), if_pos ⟨e1, e2⟩, by omega, by omega⟩

theorem arr52 : K.arrOf Try.prog 52 = some (8, 9, 1) := by kernel_rfl
theorem fo33_0 : K.fieldOff Try.prog 33 0 = some (3, 0, 1) := by kernel_rfl
theorem fo33_1 : K.fieldOff Try.prog 33 1 = some (3, 1, 1) := by kernel_rfl
theorem fo33_2 : K.fieldOff Try.prog 33 2 = some (5, 2, 1) := by kernel_rfl
/- turntable/turntablelaw07.DevPlace -/
set_option maxHeartbeats 16000000 in
set_option maxRecDepth 100000 in
theorem place_any {a1 : Option Addr} {n1 c1 k0 hb : Nat} {hw ha : Int} {l1 : List OX} (w : World) (hL : Sl w 6 a1 n1 (l1.flatMap encO)) (hn1 : n1 ≤ 9223372036854775807) (hk0 : k0 < 256) (hw1 : I64 hw) (ha1 : I64 ha) (hb1 : hb < 4294967296) :
    Calls Try.prog 5 #[.slice a1 n1 c1, .int .u8 (k0 : Int), .agg #[.int .i64 hw, .int .i64 ha, .int .u32 (hb : Int)]] w fun e w' => e = .returned (.bool true) ∧ Tr w [] w' [] := by
  have hl1 : l1.length = n1 := hL.count (by omega) encO_len
  unfold I64 at hw1 ha1
  refine K.enter0 (args := [_, _, _]) Try.func5 rfl Try.ntmps5 rfl ?_
  refine K.GC.seq ?_
  refine K.GC.region ?_
  refine K.GL.box rfl rfl rfl (fun b5 => ?_)
  refine K.GL.det (K.e_assign rfl) rfl ?_
  refine K.GL.nil ?_
  refine K.GQ.go ?_
  refine K.GC.seq ?_
  refine K.GC.region ?_
  refine K.GL.det (K.e_call1 Try.call9 rfl (fun w hT => head_con)) rfl ?_
  refine K.GL.det (K.e_assign rfl) rfl ?_
  refine K.GL.nil ?_
  refine K.GQ.go ?_
  refine K.GC.seq ?_
  refine K.GC.region ?_
  refine gl_new (n := 8) Try.call11 rfl (by omega) rfl (fun d g hkg hvg => ?_)
  have hup : Up 8 g.v := by rw [hvg]; exact Up.new 8
  refine K.GL.det (K.e_assign rfl) rfl ?_
  refine K.GL.nil ?_
  refine K.GQ.go ?_
  refine K.GC.seq ?_
  refine K.GC.seq ?_
  refine K.GC.region ?_
  refine K.GL.det (K.e_move rfl) rfl ?_
  refine K.GL.det ((K.e_eqlp Try.underlying25 rfl rfl).cast_bool (b := false) rfl) rfl ?_
  refine K.GL.det (K.e_move rfl) rfl ?_
  first | refine K.GL.splitB 28 rfl (fun h1 => ?_) (fun h1 => ?_) | skip
  all_goals first | exact absurd h1 (by decide) | replace h1 := of_decide_eq_true h1 | replace h1 := of_decide_eq_false h1 | skip
  all_goals
    first | (refine K.GL.want 28 rfl rfl rfl ?_; first | refine K.GL.det (K.e_move rfl) rfl ?_) | refine K.GL.skip 28 rfl rfl rfl rfl ?_ | refine K.GL.skipU 28 rfl rfl rfl rfl ?_
    first
      | refine K.GL.skip 28 rfl rfl rfl rfl ?_
      | refine K.GL.skipU 28 rfl rfl rfl rfl ?_
      | (refine K.GL.want 28 rfl rfl rfl ?_
         refine gl_great (l := l1) Try.call10 rfl (fun w hT => hL.stay hT (fun r hr => by cases hr)) (by omega) rfl (fun gr30 hg30 => ?_)
         rcases gr30 with _ | _)
    all_goals
      first | refine K.GL.det (K.e_pick_t rfl rfl) rfl ?_ | refine K.GL.det (K.e_pick_f rfl rfl) rfl ?_
      refine K.GL.nil ?_
      refine K.GQ.go ?_
      refine K.GC.condB rfl (fun h2 => ?_) (fun h2 => ?_)
      · first
        | exact absurd h2 (by decide)
        | try replace h2 := of_decide_eq_true h2
          refine K.GC.seq ?_
          refine K.GC.region ?_
          refine K.GL.det (K.e_move rfl) rfl ?_
          refine K.GL.det ((K.e_neqp Try.underlying25 rfl rfl).cast_bool (b := true) rfl) rfl ?_
          refine K.GL.det (K.e_move rfl) rfl ?_
          first | refine K.GL.splitB 34 rfl (fun h3 => ?_) (fun h3 => ?_) | skip
          all_goals first | exact absurd h3 (by decide) | replace h3 := of_decide_eq_true h3 | replace h3 := of_decide_eq_false h3 | skip
          all_goals
            first | (refine K.GL.want 34 rfl rfl rfl ?_; first | refine K.GL.det (K.e_move rfl) rfl ?_) | refine K.GL.skip 34 rfl rfl rfl rfl ?_ | refine K.GL.skipU 34 rfl rfl rfl rfl ?_
            first | refine K.GL.det (K.e_pick_t rfl rfl) rfl ?_ | refine K.GL.det (K.e_pick_f rfl rfl) rfl ?_
            refine K.GL.det (K.e_assign rfl) rfl ?_
            refine K.GL.nil ?_
            refine K.GQ.go ?_
            refine K.GC.ret ?_
            refine K.GQ.then_ret ?_
            refine K.GQ.ret1 Try.results5 rfl (fun w hT => ?_)
            exact ⟨rfl, hT.nil⟩
      · first
        | exact absurd h2 (by decide)
        | try replace h2 := of_decide_eq_false h2
          refine K.GC.skip ?_
          refine K.GQ.go ?_
          refine K.GC.seq ?_
          refine K.GC.seq ?_
          refine K.GC.region ?_
          refine K.GL.det (K.e_assign rfl) rfl ?_
          refine K.GL.nil ?_
          refine K.GQ.go ?_
          refine K.GC.block ?_
          refine K.GC.loopk (α := Nat × DG) [0, 1, 5, 6, 7, 8, 10, 11, 12, 13, 15, 16, 18, 19, 20, 22, 23, 65, 66, 67, 68, 69, 70, 71, 72, 73, 74, 75, 76, 77, 78, 79, 80, 81, 82, 83, 84, 86, 87, 88, 89, 90, 91, 92, 93, 94, 95, 96, 97, 98, 99, 100, 101, 102, 103, 104, 105, 106, 107, 108, 109, 110, 111, 112, 113, 114, 115, 116, 117, 118, 119, 120, 121, 122, 123, 124, 125, 126, 127, 128, 130, 131, 132, 133, 134, 135, 136, 137, 138, 139, 140, 141, 142, 143, 144, 145, 146, 147, 148, 149, 150, 151, 152, 153, 154, 155, 156, 157, 158, 159, 160, 161, 162, 163, 164, 165, 166, 167, 168, 169, 170, 171, 172, 173, 174, 175, 176, 177, 178, 179, 180, 181, 182, 183, 184, 185, 186, 187, 188, 189, 190, 191, 192, 193, 194, 195, 196] rfl (fun x => [(9, .int .i64 (x.1 : Int))]) (fun x => [DevR d x.2, cl b5 51 [.int .i64 hw, .int .i64 ha, .int .u32 (hb : Int)]]) (fun x => x.1 ≤ n1 ∧ x.2.Ok ∧ Up 8 x.2.v) (fun x => (n1 - x.1)) (0, g) ⟨Nat.zero_le _, hkg, hup⟩ (by (repeat refine ⟨rfl, ?_⟩); exact trivial) (K.Sub.refl _) (fun x hI => ?_)
          obtain ⟨x, g⟩ := x
          obtain ⟨hx, hkg, hup⟩ := hI
          simp only at hx hkg hup ⊢
          refine K.GC.seq ?_
          refine K.GC.seq ?_
          refine K.GC.region ?_
          refine K.GL.det (K.e_move rfl) rfl ?_
          refine K.GL.det (K.e_move rfl) rfl ?_
          refine K.GL.det (K.e_len Try.underlying22 rfl) rfl ?_
          first | refine K.GL.det ((K.e_lt rfl rfl).yes (by first | omega | assumption | decide +kernel)) rfl ?_ | refine K.GL.det ((K.e_lt rfl rfl).no (by first | omega | assumption | decide +kernel)) rfl ?_ | refine K.GL.det (K.e_lt rfl rfl) rfl ?_
          refine K.GL.nil ?_
          refine K.GQ.go ?_
          refine K.GC.condB rfl (fun h4 => ?_) (fun h4 => ?_)
          · first
            | exact absurd h4 (by decide)
            | try replace h4 := of_decide_eq_true h4
              refine K.GC.skip ?_
              refine K.GQ.go ?_
              refine K.GC.seq ?_
              refine K.GC.block ?_
              refine K.GC.seq ?_
              obtain ⟨q, hq⟩ : ∃ q, l1[x]? = some q := get_ex (by omega)
              refine K.GC.region ?_
              refine K.GL.det (K.e_move rfl) rfl ?_
              refine K.GL.det (K.e_move rfl) rfl ?_
              refine K.GL.det (K.e_indexAddrS sl22 rfl rfl hL (by omega) (by omega)) rfl ?_
              refine K.GL.det (K.e_fieldAddr fo33_0 rfl) rfl ?_
              refine K.GL.det (K.e_load_old Try.isAgg3 rfl (by exact (hL.item encO_len hq) 0 _ rfl)) rfl ?_
              first | refine K.GL.det ((K.e_eq rfl rfl).yes (by first | omega | assumption | decide +kernel)) rfl ?_ | refine K.GL.det ((K.e_eq rfl rfl).no (by first | omega | assumption | decide +kernel)) rfl ?_ | refine K.GL.det (K.e_eq rfl rfl) rfl ?_
              refine K.GL.nil ?_
              refine K.GQ.go ?_
              refine K.GC.condB rfl (fun h5 => ?_) (fun h5 => ?_)
              · first
                | exact absurd h5 (by decide)
                | try replace h5 := of_decide_eq_true h5
                  refine K.GC.region ?_
                  refine K.GL.det (K.e_move rfl) rfl ?_
                  refine gl_flush Try.call15 rfl hkg rfl (fun g1 hkg1 hvg1 => ?_)
                  obtain ⟨hup1, _, _, _, _⟩ := hup.flush
                  rw [← hvg1] at hup1
                  refine K.GL.nil ?_
                  refine K.GQ.block_normal ?_
                  refine K.GQ.go ?_
                  refine K.GC.region ?_
                  refine K.GL.det (K.e_move rfl) rfl ?_
                  first | refine K.GL.det (K.e_add rfl rfl ⟨by omega, by omega⟩) rfl ?_ | refine K.GL.det (K.e_addw rfl rfl) rfl ?_
                  refine K.GL.det (K.e_assign rfl) rfl ?_
                  refine K.GL.nil ?_
                  exact K.GQ.round (x + 1, g1) ⟨by simp only; omega, hkg1, hup1⟩ (by simp only; omega) (by (repeat refine ⟨rfl, ?_⟩); exact trivial) (by first | exact (Sub.take (i := 0) rfl (Sub.take (i := 1) rfl (Sub.nil _))) | exact (Sub.take (i := 0) rfl (Sub.take (i := 0) rfl (Sub.nil _))))
              · first
                | exact absurd h5 (by decide)
                | try replace h5 := of_decide_eq_false h5
                  refine K.GC.drawn 13 [[], [], [], [1, 2], [1, 2, 3], [1, 2, 3, 4], [1, 2, 3, 4, 5], [], [], [7, 8], [7, 8, 9], [7, 8, 9, 10], [7, 8, 9, 10, 11], [0, 1, 2, 3, 4, 5, 6, 7, 8, 9, 10, 11, 12]] [[], [], [], [1, 2], [3], [4], [5], [], [], [7, 8], [9], [10], [11]] [0, 1, 5, 6, 7, 8, 9, 10, 11, 12, 13, 15, 16, 18, 19, 20, 22, 23, 37, 38, 39, 40, 41, 42, 43, 44, 45, 46, 47, 48, 49, 65, 66, 67, 68, 69, 70, 71, 72, 73, 74, 75, 76, 77, 78, 79, 80, 81, 82, 83, 84, 86, 87, 88, 89, 90, 91, 92, 93, 94, 95, 96, 97, 98, 99, 100, 101, 102, 103, 104, 105, 106, 107, 108, 109, 110, 111, 112, 113, 114, 115, 116, 117, 118, 119, 120, 121, 122, 123, 124, 125, 126, 127, 128, 130, 131, 132, 133, 134, 135, 136, 137, 138, 139, 140, 141, 142, 143, 144, 145, 146, 147, 148, 149, 150, 151, 152, 153, 154, 155, 156, 157, 158, 159, 160, 161, 162, 163, 164, 165, 166, 167, 168, 169, 170, 171, 172, 173, 174, 175, 176, 177, 178, 179, 180, 181, 182, 183, 184, 185, 186, 187, 188, 189, 190, 191, 192, 193, 194, 195, 196] (by kernel_rfl) (by kernel_rfl) rfl ?_
                  refine K.DW.det rfl (fun vs => K.e_move rfl) ?_
                  refine K.DW.det rfl (fun vs => K.e_move rfl) ?_
                  refine K.DW.det rfl (fun vs => K.e_move rfl) ?_
                  refine K.DW.det rfl (fun vs => K.e_indexAddrS sl22 rfl rfl hL (by omega) (by omega)) ?_
                  refine K.DW.det rfl (fun vs => K.e_fieldAddr fo33_1 rfl) ?_
                  refine K.DW.det rfl (fun vs => K.e_load_old Try.isAgg3 rfl (by exact (hL.item encO_len hq) 1 _ rfl)) ?_
                  refine K.DW.det rfl (fun vs => (K.e_and rfl rfl).cast_int (b := ((at7 q.at_ : Nat) : Int)) (at7_val _)) ?_
                  refine K.DW.det rfl (fun vs => K.e_move rfl) ?_
                  refine K.DW.det rfl (fun vs => K.e_move rfl) ?_
                  refine K.DW.det rfl (fun vs => K.e_indexAddrS sl22 rfl rfl hL (by omega) (by omega)) ?_
                  refine K.DW.det rfl (fun vs => K.e_fieldAddr fo33_2 rfl) ?_
                  refine K.DW.det rfl (fun vs => K.e_load_old Try.isAgg5 rfl (by exact (hL.item encO_len hq) 2 _ rfl)) ?_
                  refine K.DW.evO (fun vs hf => K.e_call (Pv := fun u => ∃ b, u = .slice (some ⟨b, 0, none⟩) 64 64) (R := atPtr fun b => cl b 5 (sv (secOf (q.c)))) Try.call23 rfl (fun w hT => (full_con (q.c)).mono fun e w' ⟨b, h1, h2⟩ => ⟨_, h1, ⟨b, rfl⟩, h2⟩)) ?_
                  refine K.DW.fin (fun vs hf => ?_)
                  refine K.GL.keep [0, 1, 5, 6, 7, 8, 9, 10, 11, 12, 13, 15, 16, 18, 19, 20, 22, 23, 37, 38, 39, 40, 41, 42, 43, 44, 45, 46, 47, 48, 49, 51, 52, 53, 54, 55, 56, 57, 58, 59, 60, 61, 62, 63, 65, 66, 67, 68, 69, 70, 71, 72, 73, 74, 75, 76, 77, 78, 79, 80, 81, 82, 83, 84, 86, 87, 88, 89, 90, 91, 92, 93, 94, 95, 96, 97, 98, 99, 100, 101, 102, 103, 104, 105, 106, 107, 108, 109, 110, 111, 112, 113, 114, 115, 116, 117, 118, 119, 120, 121, 122, 123, 124, 125, 126, 127, 128, 130, 131, 132, 133, 134, 135, 136, 137, 138, 139, 140, 141, 142, 143, 144, 145, 146, 147, 148, 149, 150, 151, 152, 153, 154, 155, 156, 157, 158, 159, 160, 161, 162, 163, 164, 165, 166, 167, 168, 169, 170, 171, 172, 173, 174, 175, 176, 177, 178, 179, 180, 181, 182, 183, 184, 185, 186, 187, 188, 189, 190, 191, 192, 193, 194, 195, 196] rfl ?_
                  obtain ⟨⟨b63, e63⟩, _⟩ := hf
                  refine K.GL.own1 (F := [DevR d g, cl b5 51 [.int .i64 hw, .int .i64 ha, .int .u32 (hb : Int)]]) e63 ?_
                  refine gl_write (i := ((at7 q.at_ : Nat) : Int)) (bs := (secOf (q.c)).1) (a := some ⟨b63, 0, none⟩) (n := 64) (c := 64) Try.call13 (by rw [← e63]; rfl) hkg (fun w hT => own_slice hT (by simp)) rfl (fun g1 hkg1 hvg1 => ?_)
                  obtain ⟨hup1, _, _, _, _⟩ := hup.write (at7_lt q.at_) (secOf q.c)
                  rw [← hvg1] at hup1
                  refine K.GL.nil ?_
                  refine K.GQ.block_normal ?_
                  refine K.GQ.go ?_
                  refine K.GC.region ?_
                  refine K.GL.det (K.e_move rfl) rfl ?_
                  first | refine K.GL.det (K.e_add rfl rfl ⟨by omega, by omega⟩) rfl ?_ | refine K.GL.det (K.e_addw rfl rfl) rfl ?_
                  refine K.GL.det (K.e_assign rfl) rfl ?_
                  refine K.GL.nil ?_
                  exact K.GQ.round (x + 1, g1) ⟨by simp only; omega, hkg1, hup1⟩ (by simp only; omega) (by (repeat refine ⟨rfl, ?_⟩); exact trivial) (by first | exact (Sub.take (i := 0) rfl (Sub.take (i := 1) rfl (Sub.nil _))) | exact (Sub.take (i := 0) rfl (Sub.take (i := 0) rfl (Sub.nil _))))
          · first
            | exact absurd h4 (by decide)
            | try replace h4 := of_decide_eq_false h4
              refine K.GC.exit ?_
              refine K.GQ.then_exit ?_
              refine K.GQ.then_exit ?_
              refine K.GQ.block_hit ?_
              refine K.GQ.go ?_
              refine K.GC.seq ?_
              refine K.GC.region ?_
              refine K.GL.det (K.e_move rfl) rfl ?_
              first | refine K.GL.det (K.e_conv Try.underlying5 Try.underlying3 rfl (K.wrap_i64 (by omega) (by omega))) rfl ?_ | refine K.GL.det (K.e_convw Try.underlying5 Try.underlying3 rfl) rfl ?_
              refine K.GL.det ((K.e_rem rfl rfl (by omega) (by omega) (by omega)).cast_int (b := ((k0 % 8 : Nat) : Int)) (by omega)) rfl ?_
              refine K.GL.det (K.e_assign rfl) rfl ?_
              refine K.GL.nil ?_
              refine K.GQ.go ?_
              refine K.GC.seq ?_
              refine K.GC.region ?_
              refine K.GL.alloc Try.zeroValue52 rfl rfl (fun b11 => ?_)
              refine K.GL.nil ?_
              refine K.GQ.go ?_
              refine K.GC.seq ?_
              refine K.GC.seq ?_
              refine K.GC.region ?_
              refine K.GL.det (K.e_assign rfl) rfl ?_
              refine K.GL.nil ?_
              refine K.GQ.go ?_
              refine K.GC.block ?_
              refine K.GC.loopk (α := Nat) [5, 6, 7, 8, 10, 11, 15, 16, 18, 19, 20, 22, 23, 82, 83, 84, 86, 87, 88, 89, 90, 91, 92, 93, 94, 95, 96, 97, 98, 99, 100, 101, 102, 103, 104, 105, 106, 107, 108, 109, 110, 111, 112, 113, 114, 115, 116, 117, 118, 119, 120, 121, 122, 123, 124, 125, 126, 127, 128, 130, 131, 132, 133, 134, 135, 136, 137, 138, 139, 140, 141, 142, 143, 144, 145, 146, 147, 148, 149, 150, 151, 152, 153, 154, 155, 156, 157, 158, 159, 160, 161, 162, 163, 164, 165, 166, 167, 168, 169, 170, 171, 172, 173, 174, 175, 176, 177, 178, 179, 180, 181, 182, 183, 184, 185, 186, 187, 188, 189, 190, 191, 192, 193, 194, 195, 196] rfl (fun y => [(12, .int .i64 (y : Int))]) (fun y => [cl b11 52 (sl8 fun j => if j < y then (g.v.A j).1 else []), DevR d g, cl b5 51 [.int .i64 hw, .int .i64 ha, .int .u32 (hb : Int)]]) (fun y => y ≤ 8) (fun y => (8 - y)) 0 (by omega) (by (repeat refine ⟨rfl, ?_⟩); exact trivial) (K.Sub.refl _) (fun y hI => ?_)
              refine K.GC.seq ?_
              refine K.GC.seq ?_
              refine K.GC.region ?_
              refine K.GL.det (K.e_move rfl) rfl ?_
              first | refine K.GL.det ((K.e_lt rfl rfl).yes (by first | omega | assumption | decide +kernel)) rfl ?_ | refine K.GL.det ((K.e_lt rfl rfl).no (by first | omega | assumption | decide +kernel)) rfl ?_ | refine K.GL.det (K.e_lt rfl rfl) rfl ?_
              refine K.GL.nil ?_
              refine K.GQ.go ?_
              refine K.GC.condB rfl (fun h6 => ?_) (fun h6 => ?_)
              · first
                | exact absurd h6 (by decide)
                | try replace h6 := of_decide_eq_true h6
                  refine K.GC.skip ?_
                  refine K.GQ.go ?_
                  refine K.GC.seq ?_
                  refine K.GC.block ?_
                  refine K.GC.seq ?_
                  refine K.GC.region ?_
                  refine K.GL.det (K.e_move rfl) rfl ?_
                  refine K.GL.det (K.e_move rfl) rfl ?_
                  refine gl_readE (i := (y : Int)) Try.call17 rfl hkg (hup.read (by omega)) rfl (fun a75 c75 => ?_)
                  refine K.GL.det (K.e_move rfl) rfl ?_
                  refine K.GL.det (K.e_extract rfl rfl) rfl ?_
                  refine K.GL.det (K.e_extract rfl rfl) rfl ?_
                  refine K.GL.det (K.e_assign rfl) rfl ?_
                  refine K.GL.det (K.e_assign rfl) rfl ?_
                  refine K.GL.nil ?_
                  refine K.GQ.go ?_
                  refine K.GC.region ?_
                  refine K.GL.det (K.e_move rfl) rfl ?_
                  refine K.GL.det (K.e_move rfl) rfl ?_
                  refine K.GL.det (K.e_b2sw Try.underlying29 Try.underlying5 Try.underlying9 rfl (fun w hT => hT.sl_row HasW.mem (by omega) (by rw [bv_length, Nat.mul_one]))) rfl ?_
                  refine K.GL.det (K.e_indexAddrA arr52 rfl rfl (by omega) (by omega)) rfl ?_
                  refine K.GL.storeP (cs' := sl8 fun j => if j < y + 1 then (g.v.A j).1 else []) rfl rfl rfl Try.sizeOf9 rfl rfl (was_set (f := fun j => (g.v.A j).1) (by omega) (by omega)) ?_
                  refine K.GL.nil ?_
                  refine K.GQ.block_normal ?_
                  refine K.GQ.go ?_
                  refine K.GC.region ?_
                  refine K.GL.det (K.e_move rfl) rfl ?_
                  first | refine K.GL.det (K.e_add rfl rfl ⟨by omega, by omega⟩) rfl ?_ | refine K.GL.det (K.e_addw rfl rfl) rfl ?_
                  refine K.GL.det (K.e_assign rfl) rfl ?_
                  refine K.GL.nil ?_
                  exact K.GQ.round (y + 1) (by omega) (by omega) (by (repeat refine ⟨rfl, ?_⟩); exact trivial) (Sub.take (i := 1) rfl (Sub.take (i := 1) rfl (Sub.take (i := 1) rfl (Sub.nil _))))
              · first
                | exact absurd h6 (by decide)
                | try replace h6 := of_decide_eq_false h6
                  refine K.GC.exit ?_
                  refine K.GQ.then_exit ?_
                  refine K.GQ.then_exit ?_
                  refine K.GQ.block_hit ?_
                  refine K.GQ.go ?_
                  refine K.GC.seq ?_
                  obtain rfl : y = 8 := by omega
                  rw [was_all (f := fun j => (g.v.A j).1)]
                  refine K.GC.region ?_
                  refine K.GL.det (K.e_move rfl) rfl ?_
                  refine K.GL.det (K.e_move rfl) rfl ?_
                  refine gl_full (c := 200) Try.call23 rfl rfl (fun b84 => ?_)
                  refine gl_write (i := ((k0 % 8 : Nat) : Int)) (bs := (secOf 200).1) Try.call13 rfl hkg (fun w hT => own_slice hT (by simp)) rfl (fun g2 hkg2 hvg2 => ?_)
                  have hk8 : k0 % 8 < 8 := Nat.mod_lt _ (by omega)
                  obtain ⟨hup2, _, _, hA2, _⟩ := hup.write hk8 (secOf 200)
                  rw [← hvg2] at hup2 hA2
                  refine K.GL.nil ?_
                  refine K.GQ.go ?_
                  refine K.GC.seq ?_
                  refine K.GC.seq ?_
                  refine K.GC.region ?_
                  refine K.GL.det (K.e_assign rfl) rfl ?_
                  refine K.GL.nil ?_
                  refine K.GQ.go ?_
                  refine K.GC.block ?_
                  refine K.GC.loopk (α := Nat) [5, 7, 8, 10, 11, 18, 19, 20, 22, 23, 123, 124, 125, 126, 127, 128, 130, 131, 132, 133, 134, 135, 136, 137, 138, 139, 140, 141, 142, 143, 144, 145, 146, 147, 148, 149, 150, 151, 152, 153, 154, 155, 156, 157, 158, 159, 160, 161, 162, 163, 164, 165, 166, 167, 168, 169, 170, 171, 172, 173, 174, 175, 176, 177, 178, 179, 180, 181, 182, 183, 184, 185, 186, 187, 188, 189, 190, 191, 192, 193, 194, 195, 196] rfl (fun z => [(15, .int .i64 (z : Int))]) (fun z => [cl b11 52 (sl8 fun j => if j < z then (g2.v.A j).1 else (g.v.A j).1), DevR d g2, cl b5 51 [.int .i64 hw, .int .i64 ha, .int .u32 (hb : Int)]]) (fun z => z ≤ 8) (fun z => (8 - z)) 0 (by omega) (by (repeat refine ⟨rfl, ?_⟩); exact trivial) (Sub.take (i := 2) rfl (Sub.take (i := 0) rfl (Sub.take (i := 1) rfl (Sub.nil _)))) (fun z hI => ?_)
                  refine K.GC.seq ?_
                  refine K.GC.seq ?_
                  refine K.GC.region ?_
                  refine K.GL.det (K.e_move rfl) rfl ?_
                  first | refine K.GL.det ((K.e_lt rfl rfl).yes (by first | omega | assumption | decide +kernel)) rfl ?_ | refine K.GL.det ((K.e_lt rfl rfl).no (by first | omega | assumption | decide +kernel)) rfl ?_ | refine K.GL.det (K.e_lt rfl rfl) rfl ?_
                  refine K.GL.nil ?_
                  refine K.GQ.go ?_
                  refine K.GC.condB rfl (fun h7 => ?_) (fun h7 => ?_)
                  · first
                    | exact absurd h7 (by decide)
                    | try replace h7 := of_decide_eq_true h7
                      refine K.GC.skip ?_
                      refine K.GQ.go ?_
                      refine K.GC.seq ?_
                      refine K.GC.block ?_
                      refine K.GC.seq ?_
                      refine K.GC.region ?_
                      refine K.GL.det (K.e_move rfl) rfl ?_
                      refine K.GL.det (K.e_move rfl) rfl ?_
                      refine gl_readE (i := (z : Int)) Try.call17 rfl hkg2 (hup2.read (by omega)) rfl (fun a93 c93 => ?_)
                      refine K.GL.det (K.e_move rfl) rfl ?_
                      refine K.GL.det (K.e_extract rfl rfl) rfl ?_
                      refine K.GL.det (K.e_extract rfl rfl) rfl ?_
                      refine K.GL.det (K.e_assign rfl) rfl ?_
                      refine K.GL.det (K.e_assign rfl) rfl ?_
                      refine K.GL.nil ?_
                      refine K.GQ.go ?_
                      refine K.GC.seq ?_
                      refine K.GC.seq ?_
                      have hze : z ≠ k0 % 8 → (g2.v.A z).1 = (g.v.A z).1 := fun h => by rw [hA2, if_neg h]
                      have hz200 : z = k0 % 8 → (g2.v.A z).1 = (secOf 200).1 := fun h => by rw [hA2, if_pos h]
                      refine K.GC.drawn 23 [[], [], [0, 1], [0, 1, 2], [0, 1, 2, 3], [0, 1, 2, 3, 4], [0, 1, 2, 3], [0, 1, 2, 3, 6], [0, 1, 2, 3, 6, 7], [0, 1, 2, 3, 4, 5, 6, 7, 8], [0, 1, 2, 3, 4, 5, 6, 7, 8, 9], [0, 1, 2, 3, 4, 5, 6, 7, 8, 9, 10], [0, 1, 2, 3, 4, 5, 6, 7, 8, 9, 10, 11], [0, 1, 2, 3, 4, 5, 6, 7, 8, 9, 10, 11], [0, 1, 2, 3, 4, 5, 6, 7, 8, 9, 10, 11, 12, 13], [0, 1, 2, 3, 4, 5, 6, 7, 8, 9, 10, 11, 12, 13, 14], [0, 1, 2, 3, 4, 5, 6, 7, 8, 9, 10, 11, 12, 13, 14, 15], [0, 1, 2, 3, 4, 5, 6, 7, 8, 9, 10, 11, 12, 13, 14, 15, 16], [0, 1, 2, 3, 4, 5, 6, 7, 8, 9, 10, 11, 12, 13, 14, 15], [0, 1, 2, 3, 4, 5, 6, 7, 8, 9, 10, 11, 12, 13, 14, 15, 18], [0, 1, 2, 3, 4, 5, 6, 7, 8, 9, 10, 11, 12, 13, 14, 15, 16, 17, 18, 19], [0, 1, 2, 3, 4, 5, 6, 7, 8, 9, 10, 11, 12, 13, 14, 15, 16, 17, 18, 19, 20], [0, 1, 2, 3, 4, 5, 6, 7, 8, 9, 10, 11, 12, 13, 14, 15, 16, 17, 18, 19, 20, 21]] [[], [], [0, 1], [2], [3], [3, 4], [3], [3, 6], [3, 7], [3, 5, 8], [3, 9], [10], [11], [11], [11, 12, 13], [11, 14], [15], [15, 16], [15], [15, 18], [15, 17, 19], [11, 15, 20], [11, 21]] [5, 6, 7, 8, 10, 11, 15, 16, 18, 19, 20, 22, 23, 86, 87, 88, 89, 90, 91, 92, 93, 94, 95, 119, 120, 121, 122, 123, 124, 125, 126, 127, 128, 130, 131, 132, 133, 134, 135, 136, 137, 138, 139, 140, 141, 142, 143, 144, 145, 146, 147, 148, 149, 150, 151, 152, 153, 154, 155, 156, 157, 158, 159, 160, 161, 162, 163, 164, 165, 166, 167, 168, 169, 170, 171, 172, 173, 174, 175, 176, 177, 178, 179, 180, 181, 182, 183, 184, 185, 186, 187, 188, 189, 190, 191, 192, 193, 194, 195, 196] (by kernel_rfl) (by kernel_rfl) rfl ?_
                      rcases (by omega : z ≠ k0 % 8 ∨ z = k0 % 8) with hzk | hzk
                      all_goals
                        refine K.DW.det rfl (fun vs => K.e_move rfl) ?_
                        refine K.DW.det rfl (fun vs => K.e_move rfl) ?_
                        first | refine K.DW.det rfl (fun vs => (K.e_ne rfl rfl).yes (by first | omega | assumption | decide +kernel)) ?_ | refine K.DW.det rfl (fun vs => (K.e_ne rfl rfl).no (by first | omega | assumption | decide +kernel)) ?_ | refine K.DW.det rfl (fun vs => K.e_ne rfl rfl) ?_
                        refine K.DW.det rfl (fun vs => K.e_move rfl) ?_
                        first | (refine K.DW.want (fun _ => rfl) ?_; first | refine K.DW.det rfl (fun vs => K.e_move rfl) ?_) | refine K.DW.skip (fun _ => rfl) ?_
                        first | (refine K.DW.want (fun _ => rfl) ?_; first | refine K.DW.det rfl (fun vs => K.e_b2sw Try.underlying29 Try.underlying5 Try.underlying9 rfl (fun w hT => hT.sl_row HasW.mem (by omega) (by rw [bv_length, Nat.mul_one]))) ?_) | refine K.DW.skip (fun _ => rfl) ?_
                        first | (refine K.DW.want (fun _ => rfl) ?_; first | refine K.DW.det rfl (fun vs => K.e_move rfl) ?_) | refine K.DW.skip (fun _ => rfl) ?_
                        first | (refine K.DW.want (fun _ => rfl) ?_; first | refine K.DW.det rfl (fun vs => K.e_indexAddrA arr52 rfl rfl (by omega) (by omega)) ?_) | refine K.DW.skip (fun _ => rfl) ?_
                        first | (refine K.DW.want (fun _ => rfl) ?_; first | refine K.DW.det rfl (fun vs => K.e_load Try.isAgg9 rfl (was_now (by omega) (by omega))) ?_) | refine K.DW.skip (fun _ => rfl) ?_
                        first | (refine K.DW.want (fun _ => rfl) ?_; first | refine K.DW.det rfl (fun vs => (K.e_nes Try.underlying9 rfl rfl).no (not_not_intro (hze hzk))) ?_) | refine K.DW.skip (fun _ => rfl) ?_
                        first | refine K.DW.det rfl (fun vs => K.e_pick_t rfl rfl) ?_ | refine K.DW.det rfl (fun vs => K.e_pick_f rfl rfl) ?_
                        refine K.DW.det rfl (fun vs => K.e_move rfl) ?_
                        first | (refine K.DW.want (fun _ => rfl) ?_; first | refine K.DW.det rfl (fun vs => K.e_move rfl) ?_) | refine K.DW.skip (fun _ => rfl) ?_
                        first | (refine K.DW.want (fun _ => rfl) ?_; first | refine K.DW.det rfl (fun vs => K.e_move rfl) ?_) | refine K.DW.skip (fun _ => rfl) ?_
                        first | (refine K.DW.want (fun _ => rfl) ?_; first | refine K.DW.det rfl (fun vs => (K.e_eq rfl rfl).yes (by first | omega | assumption | decide +kernel)) ?_ | refine K.DW.det rfl (fun vs => (K.e_eq rfl rfl).no (by first | omega | assumption | decide +kernel)) ?_ | refine K.DW.det rfl (fun vs => K.e_eq rfl rfl) ?_) | refine K.DW.skip (fun _ => rfl) ?_
                        first | (refine K.DW.want (fun _ => rfl) ?_; first | refine K.DW.det rfl (fun vs => K.e_move rfl) ?_) | refine K.DW.skip (fun _ => rfl) ?_
                        first | (refine K.DW.want (fun _ => rfl) ?_; first | refine K.DW.det rfl (fun vs => K.e_move rfl) ?_) | refine K.DW.skip (fun _ => rfl) ?_
                        first | (refine K.DW.want (fun _ => rfl) ?_; first | refine K.DW.det rfl (fun vs => K.e_b2sw Try.underlying29 Try.underlying5 Try.underlying9 rfl (fun w hT => hT.sl_row HasW.mem (by omega) (by rw [bv_length, Nat.mul_one]))) ?_) | refine K.DW.skip (fun _ => rfl) ?_
                        first | refine K.DW.evgO (fun _ => rfl) (fun vs hf => K.e_call (Pv := fun u => ∃ b, u = .slice (some ⟨b, 0, none⟩) 64 64) (R := atPtr fun b => cl b 5 (sv (secOf (200)))) Try.call23 rfl (fun w hT => (full_con (200)).mono fun e w' ⟨b, h1, h2⟩ => ⟨_, h1, ⟨b, rfl⟩, h2⟩)) ?_ | refine K.DW.skip (fun _ => rfl) ?_
                        first | refine K.DW.detgO (fun _ => rfl) (fun vs hf => by
                              obtain ⟨⟨b2, e2⟩, _⟩ := hf
                              refine K.e_b2sw Try.underlying29 Try.underlying5 Try.underlying9 (a := some ⟨b2, 0, none⟩) (n := 64) (c := 64) (by rw [← e2]; rfl) (l := (secOf (200)).1) (fun w hT => ?_)
                              have r1 := hT.ok _ (List.mem_of_getElem? (i := 0) rfl)
                              rw [e2] at r1
                              exact Sl.of_block r1 (by rw [bv_length, (secOf (200)).2])) ?_ | refine K.DW.skip (fun _ => rfl) ?_
                        first | (refine K.DW.want (fun _ => rfl) ?_; first | refine K.DW.det rfl (fun vs => (K.e_nes Try.underlying9 rfl rfl).no (not_not_intro (hz200 hzk))) ?_) | refine K.DW.skip (fun _ => rfl) ?_
                        first | (refine K.DW.want (fun _ => rfl) ?_; first | refine K.DW.det rfl (fun vs => K.e_pick_t rfl rfl) ?_ | refine K.DW.det rfl (fun vs => K.e_pick_f rfl rfl) ?_) | refine K.DW.skip (fun _ => rfl) ?_
                        first | refine K.DW.det rfl (fun vs => K.e_pick_t rfl rfl) ?_ | refine K.DW.det rfl (fun vs => K.e_pick_f rfl rfl) ?_
                        refine K.DW.fin (fun vs hf => ?_)
                        refine K.GL.keep [5, 6, 7, 8, 10, 11, 15, 16, 18, 19, 20, 22, 23, 86, 87, 88, 89, 90, 91, 92, 93, 94, 95, 96, 97, 98, 99, 100, 101, 102, 103, 104, 105, 106, 107, 108, 109, 110, 111, 112, 113, 114, 115, 116, 117, 118, 119, 120, 121, 122, 123, 124, 125, 126, 127, 128, 130, 131, 132, 133, 134, 135, 136, 137, 138, 139, 140, 141, 142, 143, 144, 145, 146, 147, 148, 149, 150, 151, 152, 153, 154, 155, 156, 157, 158, 159, 160, 161, 162, 163, 164, 165, 166, 167, 168, 169, 170, 171, 172, 173, 174, 175, 176, 177, 178, 179, 180, 181, 182, 183, 184, 185, 186, 187, 188, 189, 190, 191, 192, 193, 194, 195, 196] rfl ?_
                        first
                          | (obtain ⟨⟨b114, e114⟩, _⟩ := hf
                             refine K.GL.own1 (F := [row a93 c93 1 66 (bv (g2.v.A z).1), cl b11 52 (sl8 fun j => if j < z then (g2.v.A j).1 else (g.v.A j).1), DevR d g2, cl b5 51 [.int .i64 hw, .int .i64 ha, .int .u32 (hb : Int)]]) e114 ?_
                             refine K.GL.res (L' := [row a93 c93 1 66 (bv (g2.v.A z).1), cl b11 52 (sl8 fun j => if j < z then (g2.v.A j).1 else (g.v.A j).1), DevR d g2, cl b5 51 [.int .i64 hw, .int .i64 ha, .int .u32 (hb : Int)]]) ?_ (Sub.tail _ _))
                          | refine K.GL.res (L' := [row a93 c93 1 66 (bv (g2.v.A z).1), cl b11 52 (sl8 fun j => if j < z then (g2.v.A j).1 else (g.v.A j).1), DevR d g2, cl b5 51 [.int .i64 hw, .int .i64 ha, .int .u32 (hb : Int)]]) ?_ (Sub.refl _)
                        refine K.GL.nil ?_
                        refine K.GQ.go ?_
                        refine K.GC.condB rfl (fun h8 => ?_) (fun h8 => ?_)
                        · first
                          | exact absurd h8 (by decide)
                          | try replace h8 := of_decide_eq_true h8
                            refine K.GC.seq ?_
                            refine K.GC.region ?_
                            refine K.GL.det (K.e_assign rfl) rfl ?_
                            refine K.GL.nil ?_
                            refine K.GQ.go ?_
                            refine K.GC.ret ?_
                            refine K.GQ.then_ret ?_
                            refine K.GQ.block_ret ?_
                            refine K.GQ.then_ret ?_
                            refine K.GQ.then_ret ?_
                            refine K.GQ.block_ret ?_
                            refine K.GQ.then_ret ?_
                            refine K.GQ.ret1 Try.results5 rfl (fun w hT => ?_)
                            exact ⟨rfl, hT.nil⟩
                        · first
                          | exact absurd h8 (by decide)
                          | try replace h8 := of_decide_eq_false h8
                            refine K.GC.skip ?_
                            refine K.GQ.go ?_
                            refine K.GC.region ?_
                            refine K.GL.det (K.e_move rfl) rfl ?_
                            refine K.GL.det (K.e_move rfl) rfl ?_
                            refine K.GL.det (K.e_b2sw Try.underlying29 Try.underlying5 Try.underlying9 rfl (fun w hT => hT.sl_row HasW.mem (by omega) (by rw [bv_length, Nat.mul_one]))) rfl ?_
                            refine K.GL.det (K.e_indexAddrA arr52 rfl rfl (by omega) (by omega)) rfl ?_
                            refine K.GL.storeP (cs' := sl8 fun j => if j < z + 1 then (g2.v.A j).1 else (g.v.A j).1) rfl rfl rfl Try.sizeOf9 rfl rfl (was_set (f := fun j => (g2.v.A j).1) (by omega) (by omega)) ?_
                            refine K.GL.nil ?_
                            refine K.GQ.block_normal ?_
                            refine K.GQ.go ?_
                            refine K.GC.region ?_
                            refine K.GL.det (K.e_move rfl) rfl ?_
                            first | refine K.GL.det (K.e_add rfl rfl ⟨by omega, by omega⟩) rfl ?_ | refine K.GL.det (K.e_addw rfl rfl) rfl ?_
                            refine K.GL.det (K.e_assign rfl) rfl ?_
                            refine K.GL.nil ?_
                            exact K.GQ.round (z + 1) (by omega) (by omega) (by (repeat refine ⟨rfl, ?_⟩); exact trivial) (Sub.take (i := 1) rfl (Sub.take (i := 1) rfl (Sub.take (i := 1) rfl (Sub.nil _))))
                  · first
                    | exact absurd h7 (by decide)
                    | try replace h7 := of_decide_eq_false h7
                      refine K.GC.exit ?_
                      refine K.GQ.then_exit ?_
                      refine K.GQ.then_exit ?_
                      refine K.GQ.block_hit ?_
                      refine K.GQ.go ?_
                      refine K.GC.seq ?_
                      obtain rfl : z = 8 := by omega
                      rw [was_all (f := fun j => (g2.v.A j).1)]
                      refine K.GC.region ?_
                      refine K.GL.det (K.e_move rfl) rfl ?_
                      refine gl_loose Try.call25 rfl hkg2 rfl (fun a124 c124 => ?_)
                      refine K.GL.det (K.e_assign rfl) rfl ?_
                      refine K.GL.nil ?_
                      refine K.GQ.go ?_
                      refine K.GC.seq ?_
                      refine K.GC.fact (p := 0 < g2.v.list.length → a124 = some ⟨bk a124, of_ a124, none⟩) (fun w hT => (hT.sl_row (k := 1) (n := g2.v.list.length) HasW.mem (by omega) (by simp [ints])).base) (fun hb124 => ?_)
                      refine K.GC.region ?_
                      refine K.GL.det (K.e_move rfl) rfl ?_
                      refine K.GL.buildSlice mk30 rfl rfl rfl (fun b126 => ?_)
                      refine K.GL.det (K.e_loads Try.isAgg51 Try.sizeOf51 rfl rfl) rfl ?_
                      refine K.GL.buildSlice mk31 rfl rfl rfl (fun b128 => ?_)
                      refine gl_boot (ks := List.replicate 8 true) (hs := [⟨hw, ha, hb⟩]) Try.call21 rfl hkg2 (fun w hT => ⟨own_at (i := 1) (j := 4) hT rfl rfl (by decide) rfl, own_at (i := 0) (j := 4) hT rfl rfl (by decide) rfl⟩) (by simp; omega) (by omega) rfl (fun g3 hkg3 hvg3 u129 => ?_)
                      have hup3 : Up 8 g3.v := by rw [hvg3]; exact DS.boot_up hup2.len _ _
                      have hb3 : ∀ i, i < 8 → _ := fun i hi => DS.boot_hurt (s := g2.v) (n := 8) (i := i) (h := ⟨hw, ha, hb⟩) (by have := hup2.len; omega) (by have := hup2.len; omega)
                      rw [← hvg3] at hb3
                      refine K.GL.nil ?_
                      refine K.GQ.go ?_
                      refine K.GC.seq ?_
                      refine K.GC.seq ?_
                      refine K.GC.region ?_
                      refine K.GL.det (K.e_assign rfl) rfl ?_
                      refine K.GL.nil ?_
                      refine K.GQ.go ?_
                      refine K.GC.block ?_
                      refine K.GC.loopk (α := Nat) [5, 7, 8, 11, 18, 196] rfl (fun u => [(19, .int .i64 (u : Int))]) (fun u => [DevR d g3, row a124 c124 1 3 (ints g2.v.list), cl b11 52 (sl8 fun j => (g2.v.A j).1), cl b5 51 [.int .i64 hw, .int .i64 ha, .int .u32 (hb : Int)]]) (fun u => u ≤ 8) (fun u => (8 - u)) 0 (by omega) (by (repeat refine ⟨rfl, ?_⟩); exact trivial) (Sub.take (i := 0) rfl (Sub.take (i := 2) rfl (Sub.take (i := 2) rfl (Sub.take (i := 2) rfl (Sub.nil _))))) (fun u hI => ?_)
                      refine K.GC.seq ?_
                      refine K.GC.seq ?_
                      refine K.GC.region ?_
                      refine K.GL.det (K.e_move rfl) rfl ?_
                      first | refine K.GL.det ((K.e_lt rfl rfl).yes (by first | omega | assumption | decide +kernel)) rfl ?_ | refine K.GL.det ((K.e_lt rfl rfl).no (by first | omega | assumption | decide +kernel)) rfl ?_ | refine K.GL.det (K.e_lt rfl rfl) rfl ?_
                      refine K.GL.nil ?_
                      refine K.GQ.go ?_
                      refine K.GC.condB rfl (fun h9 => ?_) (fun h9 => ?_)
                      · first
                        | exact absurd h9 (by decide)
                        | try replace h9 := of_decide_eq_true h9
                          refine K.GC.skip ?_
                          refine K.GQ.go ?_
                          refine K.GC.seq ?_
                          refine K.GC.block ?_
                          refine K.GC.seq ?_
                          refine K.GC.region ?_
                          refine K.GL.det (K.e_move rfl) rfl ?_
                          refine K.GL.det (K.e_move rfl) rfl ?_
                          refine gl_readE (i := (u : Int)) Try.call17 rfl hkg3 (hup3.read (by omega)) rfl (fun a137 c137 => ?_)
                          refine K.GL.row_open (bv_ne (g3.v.A u).2) (fun b137 junk e137 hl137 => ?_)
                          subst e137
                          refine K.GL.det (K.e_move rfl) rfl ?_
                          refine K.GL.det (K.e_extract rfl rfl) rfl ?_
                          refine K.GL.det (K.e_extract rfl rfl) rfl ?_
                          refine K.GL.det (K.e_assign rfl) rfl ?_
                          refine K.GL.det (K.e_assign rfl) rfl ?_
                          refine K.GL.nil ?_
                          refine K.GQ.go ?_
                          refine K.GC.seq ?_
                          refine K.GC.seq ?_
                          have h64 : (g3.v.A u).1.length = 64 := (g3.v.A u).2
                          have hu8 : u < 8 := by omega
                          refine K.GC.region ?_
                          refine K.GL.det (K.e_move rfl) rfl ?_
                          refine K.GL.det (K.e_len Try.underlying29 rfl) rfl ?_
                          first | refine K.GL.det ((K.e_ne rfl rfl).yes (by first | omega | assumption | decide +kernel)) rfl ?_ | refine K.GL.det ((K.e_ne rfl rfl).no (by first | omega | assumption | decide +kernel)) rfl ?_ | refine K.GL.det (K.e_ne rfl rfl) rfl ?_
                          refine K.GL.nil ?_
                          refine K.GQ.go ?_
                          refine K.GC.condB rfl (fun h10 => ?_) (fun h10 => ?_)
                          · first
                            | exact absurd h10 (by decide)
                            | try replace h10 := of_decide_eq_true h10
                              refine K.GC.seq ?_
                              refine K.GC.region ?_
                              refine K.GL.det (K.e_assign rfl) rfl ?_
                              refine K.GL.nil ?_
                              refine K.GQ.go ?_
                              refine K.GC.ret ?_
                              refine K.GQ.then_ret ?_
                              refine K.GQ.block_ret ?_
                              refine K.GQ.then_ret ?_
                              refine K.GQ.then_ret ?_
                              refine K.GQ.block_ret ?_
                              refine K.GQ.then_ret ?_
                              refine K.GQ.ret1 Try.results5 rfl (fun w hT => ?_)
                              exact ⟨rfl, hT.nil⟩
                          · first
                            | exact absurd h10 (by decide)
                            | try replace h10 := of_decide_eq_false h10
                              refine K.GC.skip ?_
                              refine K.GQ.go ?_
                              refine K.GC.seq ?_
                              rcases mine_cases (l := g2.v.list) hw u with ⟨hnm, hm⟩ | ⟨hnm, hm1, hm2⟩ | ⟨v, hnm, hm, hv, hne⟩ | ⟨v, hnm, hm, hv, hne⟩
                              all_goals
                                refine K.GC.region ?_
                                refine K.GL.det (K.e_fieldAddr fo51_0 rfl) rfl ?_
                                first | refine K.GL.det (K.e_load Try.isAgg3 rfl rfl) rfl ?_ | refine K.GL.det (K.e_load0 Try.isAgg3 rfl (by assumption)) rfl ?_
                                first | refine K.GL.det ((K.e_ge rfl rfl).yes (by first | omega | assumption | decide +kernel)) rfl ?_ | refine K.GL.det ((K.e_ge rfl rfl).no (by first | omega | assumption | decide +kernel)) rfl ?_ | refine K.GL.det (K.e_ge rfl rfl) rfl ?_
                                refine K.GL.det (K.e_move rfl) rfl ?_
                                first | refine K.GL.splitB 146 rfl (fun h11 => ?_) (fun h11 => ?_) | skip
                                all_goals first | exact absurd h11 (by decide) | replace h11 := of_decide_eq_true h11 | replace h11 := of_decide_eq_false h11 | skip
                                all_goals
                                  first | (refine K.GL.want 146 rfl rfl rfl ?_; first | refine K.GL.det (K.e_fieldAddr fo51_0 rfl) rfl ?_) | refine K.GL.skip 146 rfl rfl rfl rfl ?_ | refine K.GL.skipU 146 rfl rfl rfl rfl ?_
                                  first | (refine K.GL.want 146 rfl rfl rfl ?_; first | refine K.GL.det (K.e_load Try.isAgg3 rfl rfl) rfl ?_ | refine K.GL.det (K.e_load0 Try.isAgg3 rfl (by assumption)) rfl ?_) | refine K.GL.skip 146 rfl rfl rfl rfl ?_ | refine K.GL.skipU 146 rfl rfl rfl rfl ?_
                                  first | (refine K.GL.want 146 rfl rfl rfl ?_; first | refine K.GL.det (K.e_move rfl) rfl ?_) | refine K.GL.skip 146 rfl rfl rfl rfl ?_ | refine K.GL.skipU 146 rfl rfl rfl rfl ?_
                                  first | (refine K.GL.want 146 rfl rfl rfl ?_; first | refine K.GL.det (K.e_len Try.underlying43 rfl) rfl ?_) | refine K.GL.skip 146 rfl rfl rfl rfl ?_ | refine K.GL.skipU 146 rfl rfl rfl rfl ?_
                                  first | (refine K.GL.want 146 rfl rfl rfl ?_; first | refine K.GL.det ((K.e_lt rfl rfl).yes (by first | omega | assumption | decide +kernel)) rfl ?_ | refine K.GL.det ((K.e_lt rfl rfl).no (by first | omega | assumption | decide +kernel)) rfl ?_ | refine K.GL.det (K.e_lt rfl rfl) rfl ?_) | refine K.GL.skip 146 rfl rfl rfl rfl ?_ | refine K.GL.skipU 146 rfl rfl rfl rfl ?_
                                  first | refine K.GL.det (K.e_pick_t rfl rfl) rfl ?_ | refine K.GL.det (K.e_pick_f rfl rfl) rfl ?_
                                  refine K.GL.det (K.e_move rfl) rfl ?_
                                  first | refine K.GL.splitB 153 rfl (fun h12 => ?_) (fun h12 => ?_) | skip
                                  all_goals first | exact absurd h12 (by decide) | replace h12 := of_decide_eq_true h12 | replace h12 := of_decide_eq_false h12 | skip
                                  all_goals
                                    first | (refine K.GL.want 153 rfl rfl rfl ?_; first | refine K.GL.det (K.e_move rfl) rfl ?_) | refine K.GL.skip 153 rfl rfl rfl rfl ?_ | refine K.GL.skipU 153 rfl rfl rfl rfl ?_
                                    first | (refine K.GL.want 153 rfl rfl rfl ?_; first | refine K.GL.det (K.e_fieldAddr fo51_0 rfl) rfl ?_) | refine K.GL.skip 153 rfl rfl rfl rfl ?_ | refine K.GL.skipU 153 rfl rfl rfl rfl ?_
                                    first | (refine K.GL.want 153 rfl rfl rfl ?_; first | refine K.GL.det (K.e_load Try.isAgg3 rfl rfl) rfl ?_ | refine K.GL.det (K.e_load0 Try.isAgg3 rfl (by assumption)) rfl ?_) | refine K.GL.skip 153 rfl rfl rfl rfl ?_ | refine K.GL.skipU 153 rfl rfl rfl rfl ?_
                                    first | (refine K.GL.want 153 rfl rfl rfl ?_; first | refine K.GL.det (K.e_indexAddrB sl43 rfl rfl hb124 (by omega) (by omega)) rfl ?_) | refine K.GL.skip 153 rfl rfl rfl rfl ?_ | refine K.GL.skipU 153 rfl rfl rfl rfl ?_
                                    first | (refine K.GL.want 153 rfl rfl rfl ?_; first | refine K.GL.det (K.e_loadw (v := .int .i64 (v : Int)) Try.isAgg3 rfl (fun w hT => (hT.sl_row (k := 1) (n := g2.v.list.length) HasW.mem (by omega) (by simp [ints])).cell _ _ (get_ints hv (by omega)))) rfl ?_) | refine K.GL.skip 153 rfl rfl rfl rfl ?_ | refine K.GL.skipU 153 rfl rfl rfl rfl ?_
                                    first | (refine K.GL.want 153 rfl rfl rfl ?_; first | refine K.GL.det (K.e_move rfl) rfl ?_) | refine K.GL.skip 153 rfl rfl rfl rfl ?_ | refine K.GL.skipU 153 rfl rfl rfl rfl ?_
                                    first | (refine K.GL.want 153 rfl rfl rfl ?_; first | refine K.GL.det ((K.e_eq rfl rfl).yes (by first | omega | assumption | decide +kernel)) rfl ?_ | refine K.GL.det ((K.e_eq rfl rfl).no (by first | omega | assumption | decide +kernel)) rfl ?_ | refine K.GL.det (K.e_eq rfl rfl) rfl ?_) | refine K.GL.skip 153 rfl rfl rfl rfl ?_ | refine K.GL.skipU 153 rfl rfl rfl rfl ?_
                                    first | refine K.GL.det (K.e_pick_t rfl rfl) rfl ?_ | refine K.GL.det (K.e_pick_f rfl rfl) rfl ?_
                                    refine K.GL.det (K.e_assign rfl) rfl ?_
                                    refine K.GL.nil ?_
                                    refine K.GQ.go ?_
                                    refine K.GC.seq ?_
                                    refine K.GC.region ?_
                                    refine K.GL.det (K.e_assign rfl) rfl ?_
                                    refine K.GL.nil ?_
                                    refine K.GQ.go ?_
                                    refine K.GC.block ?_
                                    refine K.GC.loopk (α := Nat) [5, 7, 8, 11, 18, 19, 20, 22, 130, 131, 132, 133, 134, 135, 136, 137, 138, 139, 140, 141, 142, 143, 144, 145, 146, 147, 148, 149, 150, 151, 152, 153, 154, 155, 156, 157, 158, 159, 160, 161, 196] rfl (fun n => [(23, .int .i64 (n : Int))]) (fun n => [cl b137 66 (bv (g3.v.A u).1 ++ junk), DevR d g3, row a124 c124 1 3 (ints g2.v.list), cl b11 52 (sl8 fun j => (g2.v.A j).1), cl b5 51 [.int .i64 hw, .int .i64 ha, .int .u32 (hb : Int)]]) (fun n => n ≤ 64) (fun n => (64 - n)) 0 (by omega) (by (repeat refine ⟨rfl, ?_⟩); exact trivial) (K.Sub.refl _) (fun n hI => ?_)
                                    refine K.GC.seq ?_
                                    refine K.GC.seq ?_
                                    refine K.GC.region ?_
                                    refine K.GL.det (K.e_move rfl) rfl ?_
                                    first | refine K.GL.det ((K.e_lt rfl rfl).yes (by first | omega | assumption | decide +kernel)) rfl ?_ | refine K.GL.det ((K.e_lt rfl rfl).no (by first | omega | assumption | decide +kernel)) rfl ?_ | refine K.GL.det (K.e_lt rfl rfl) rfl ?_
                                    refine K.GL.nil ?_
                                    refine K.GQ.go ?_
                                    refine K.GC.condB rfl (fun h13 => ?_) (fun h13 => ?_)
                                    · first
                                      | exact absurd h13 (by decide)
                                      | try replace h13 := of_decide_eq_true h13
                                        refine K.GC.skip ?_
                                        refine K.GQ.go ?_
                                        refine K.GC.seq ?_
                                        refine K.GC.block ?_
                                        refine K.GC.seq ?_
                                        have h642 : (g2.v.A u).1.length = 64 := (g2.v.A u).2
                                        obtain ⟨x3, hx3⟩ : ∃ x, (g3.v.A u).1[n]? = some x := get_ex (by omega)
                                        obtain ⟨x2, hx2⟩ : ∃ x, (g2.v.A u).1[n]? = some x := get_ex (by omega)
                                        have key := place_key (w := hw) (a := ha) (b := hb) (hb3 u hu8) hb1 hx3 hx2
                                        refine K.GC.drawn 30 [[], [], [0, 1], [0, 1, 2], [], [4], [4, 5], [], [4, 5, 6, 7], [0, 1, 2, 3, 4, 5, 6, 7, 8], [0, 1, 2, 3, 4, 5, 6, 7, 8, 9], [0, 1, 2, 3, 4, 5, 6, 7, 8, 9, 10], [0, 1, 2, 3, 4, 5, 6, 7, 8, 9, 10, 11], [0, 1, 2, 3, 4, 5, 6, 7, 8, 9, 10, 11, 12], [0, 1, 2, 3, 4, 5, 6, 7, 8, 9, 10, 11, 12, 13], [0, 1, 2, 3, 4, 5, 6, 7, 8, 9, 10, 11, 12, 13, 14], [0, 1, 2, 3, 4, 5, 6, 7, 8, 9, 10, 11, 12, 13, 14, 15], [0, 1, 2, 3, 4, 5, 6, 7, 8, 9, 10, 11, 12, 13], [0, 1, 2, 3, 4, 5, 6, 7, 8, 9, 10, 11, 12, 13, 17], [0, 1, 2, 3, 4, 5, 6, 7, 8, 9, 10, 11, 12, 13, 14, 15, 16, 17, 18], [0, 1, 2, 3, 4, 5, 6, 7, 8, 9, 10, 11, 12, 13, 14, 15, 16, 17, 18, 19], [0, 1, 2, 3, 4, 5, 6, 7, 8, 9, 10, 11, 12, 13, 14, 15, 16, 17, 18, 19, 20], [0, 1, 2, 3, 4, 5, 6, 7, 8, 9, 10, 11, 12, 13, 14, 15, 16, 17, 18, 19, 20, 21], [0, 1, 2, 3, 4, 5, 6, 7, 8, 9, 10, 11, 12, 13, 14, 15, 16, 17, 18, 19, 20, 21, 22], [0, 1, 2, 3, 4, 5, 6, 7, 8, 9, 10, 11, 12, 13, 14, 15, 16, 17, 18, 19, 20, 21, 22, 23], [0, 1, 2, 3, 4, 5, 6, 7, 8, 9, 10, 11, 12, 13, 14, 15, 16, 17, 18, 19, 20, 21], [0, 1, 2, 3, 4, 5, 6, 7, 8, 9, 10, 11, 12, 13, 14, 15, 16, 17, 18, 19, 20, 21, 25], [0, 1, 2, 3, 4, 5, 6, 7, 8, 9, 10, 11, 12, 13, 14, 15, 16, 17, 18, 19, 20, 21, 22, 23, 24, 25, 26], [0, 1, 2, 3, 4, 5, 6, 7, 8, 9, 10, 11, 12, 13, 14, 15, 16, 17, 18, 19, 20, 21, 22, 23, 24, 25, 26, 27], [0, 1, 2, 3, 4, 5, 6, 7, 8, 9, 10, 11, 12, 13, 14, 15, 16, 17, 18, 19, 20, 21, 22, 23, 24, 25, 26, 27, 28]] [[], [], [0, 1], [2], [], [4], [5], [], [6, 7], [3, 8], [9], [10], [10, 11], [10, 12], [13], [13, 14], [13, 15], [13], [13, 17], [13, 16, 18], [10, 13, 19], [10, 20], [21], [21, 22], [21, 23], [21], [21, 25], [21, 24, 26], [10, 21, 27], [10, 28]] [5, 6, 7, 8, 11, 18, 19, 20, 22, 23, 130, 131, 132, 133, 134, 135, 136, 137, 138, 139, 140, 141, 142, 143, 144, 145, 146, 147, 148, 149, 150, 151, 152, 153, 154, 155, 156, 157, 158, 159, 160, 161, 162, 163, 164, 165, 196] (by kernel_rfl) (by kernel_rfl) rfl ?_
                                        rcases key with rfl | ⟨k0, k1, k3, k4⟩
                                        all_goals first | (exfalso; omega) | skip
                                        all_goals
                                          refine K.DW.det rfl (fun vs => K.e_move rfl) ?_
                                          refine K.DW.det rfl (fun vs => K.e_move rfl) ?_
                                          refine K.DW.det rfl (fun vs => K.e_indexAddr sl29 rfl rfl (by omega) (by omega)) ?_
                                          refine K.DW.det rfl (fun vs => K.e_load Try.isAgg5 rfl (pre_get hx3 (by omega))) ?_
                                          refine K.DW.det rfl (fun vs => K.e_move rfl) ?_
                                          refine K.DW.det rfl (fun vs => K.e_indexAddrA arr52 rfl rfl (by omega) (by omega)) ?_
                                          refine K.DW.det rfl (fun vs => K.e_load Try.isAgg9 rfl (sl8_get hu8 (by omega))) ?_
                                          refine K.DW.det rfl (fun vs => K.e_move rfl) ?_
                                          refine K.DW.det rfl (fun vs => K.e_indexStr Try.underlying9 rfl rfl (by omega) hx2) ?_
                                          first | refine K.DW.det rfl (fun vs => (K.e_ne rfl rfl).yes (by first | omega | assumption | decide +kernel)) ?_ | refine K.DW.det rfl (fun vs => (K.e_ne rfl rfl).no (by first | omega | assumption | decide +kernel)) ?_ | refine K.DW.det rfl (fun vs => K.e_ne rfl rfl) ?_
                                          refine K.DW.det rfl (fun vs => K.e_move rfl) ?_
                                          first | (refine K.DW.want (fun _ => rfl) ?_; first | refine K.DW.det rfl (fun vs => K.e_move rfl) ?_) | refine K.DW.skip (fun _ => rfl) ?_
                                          first | (refine K.DW.want (fun _ => rfl) ?_; first | refine K.DW.det rfl (fun vs => (K.e_not rfl).cast_bool (b := false) rfl) ?_) | refine K.DW.skip (fun _ => rfl) ?_
                                          first | (refine K.DW.want (fun _ => rfl) ?_; first | refine K.DW.det rfl (fun vs => K.e_move rfl) ?_) | refine K.DW.skip (fun _ => rfl) ?_
                                          first | (refine K.DW.want (fun _ => rfl) ?_; first | refine K.DW.det rfl (fun vs => K.e_move rfl) ?_) | refine K.DW.skip (fun _ => rfl) ?_
                                          first | (refine K.DW.want (fun _ => rfl) ?_; first | refine K.DW.det rfl (fun vs => K.e_mul rfl rfl ⟨by omega, by omega⟩) ?_ | refine K.DW.det rfl (fun vs => K.e_mulw rfl rfl) ?_) | refine K.DW.skip (fun _ => rfl) ?_
                                          first | (refine K.DW.want (fun _ => rfl) ?_; first | refine K.DW.det rfl (fun vs => K.e_add rfl rfl ⟨by omega, by omega⟩) ?_ | refine K.DW.det rfl (fun vs => K.e_addw rfl rfl) ?_) | refine K.DW.skip (fun _ => rfl) ?_
                                          first | (refine K.DW.want (fun _ => rfl) ?_; first | refine K.DW.det rfl (fun vs => K.e_fieldAddr fo51_1 rfl) ?_) | refine K.DW.skip (fun _ => rfl) ?_
                                          first | (refine K.DW.want (fun _ => rfl) ?_; first | refine K.DW.det rfl (fun vs => K.e_load Try.isAgg3 rfl rfl) ?_ | refine K.DW.det rfl (fun vs => K.e_load0 Try.isAgg3 rfl (by assumption)) ?_) | refine K.DW.skip (fun _ => rfl) ?_
                                          first | (refine K.DW.want (fun _ => rfl) ?_; first | refine K.DW.det rfl (fun vs => (K.e_lt rfl rfl).yes (by first | omega | assumption | decide +kernel)) ?_ | refine K.DW.det rfl (fun vs => (K.e_lt rfl rfl).no (by first | omega | assumption | decide +kernel)) ?_ | refine K.DW.det rfl (fun vs => K.e_lt rfl rfl) ?_) | refine K.DW.skip (fun _ => rfl) ?_
                                          first | (refine K.DW.want (fun _ => rfl) ?_; first | refine K.DW.det rfl (fun vs => K.e_pick_t rfl rfl) ?_ | refine K.DW.det rfl (fun vs => K.e_pick_f rfl rfl) ?_) | refine K.DW.skip (fun _ => rfl) ?_
                                          first | (refine K.DW.want (fun _ => rfl) ?_; first | refine K.DW.det rfl (fun vs => K.e_move rfl) ?_) | refine K.DW.skip (fun _ => rfl) ?_
                                          first | (refine K.DW.want (fun _ => rfl) ?_; first | refine K.DW.det rfl (fun vs => K.e_move rfl) ?_) | refine K.DW.skip (fun _ => rfl) ?_
                                          first | (refine K.DW.want (fun _ => rfl) ?_; first | refine K.DW.det rfl (fun vs => K.e_mul rfl rfl ⟨by omega, by omega⟩) ?_ | refine K.DW.det rfl (fun vs => K.e_mulw rfl rfl) ?_) | refine K.DW.skip (fun _ => rfl) ?_
                                          first | (refine K.DW.want (fun _ => rfl) ?_; first | refine K.DW.det rfl (fun vs => K.e_sub rfl rfl ⟨by omega, by omega⟩) ?_ | refine K.DW.det rfl (fun vs => K.e_subw rfl rfl) ?_) | refine K.DW.skip (fun _ => rfl) ?_
                                          first | (refine K.DW.want (fun _ => rfl) ?_; first | refine K.DW.det rfl (fun vs => K.e_fieldAddr fo51_1 rfl) ?_) | refine K.DW.skip (fun _ => rfl) ?_
                                          first | (refine K.DW.want (fun _ => rfl) ?_; first | refine K.DW.det rfl (fun vs => K.e_load Try.isAgg3 rfl rfl) ?_ | refine K.DW.det rfl (fun vs => K.e_load0 Try.isAgg3 rfl (by assumption)) ?_) | refine K.DW.skip (fun _ => rfl) ?_
                                          first | (refine K.DW.want (fun _ => rfl) ?_; first | refine K.DW.det rfl (fun vs => (K.e_gt rfl rfl).yes (by first | omega | assumption | decide +kernel)) ?_ | refine K.DW.det rfl (fun vs => (K.e_gt rfl rfl).no (by first | omega | assumption | decide +kernel)) ?_ | refine K.DW.det rfl (fun vs => K.e_gt rfl rfl) ?_) | refine K.DW.skip (fun _ => rfl) ?_
                                          first | (refine K.DW.want (fun _ => rfl) ?_; first | refine K.DW.det rfl (fun vs => K.e_pick_t rfl rfl) ?_ | refine K.DW.det rfl (fun vs => K.e_pick_f rfl rfl) ?_) | refine K.DW.skip (fun _ => rfl) ?_
                                          first | refine K.DW.det rfl (fun vs => K.e_pick_t rfl rfl) ?_ | refine K.DW.det rfl (fun vs => K.e_pick_f rfl rfl) ?_
                                          refine K.DW.fin0 rfl (fun vs => ?_)
                                          refine K.GL.keep [5, 6, 7, 8, 11, 18, 19, 20, 22, 23, 130, 131, 132, 133, 134, 135, 136, 137, 138, 139, 140, 141, 142, 143, 144, 145, 146, 147, 148, 149, 150, 151, 152, 153, 154, 155, 156, 157, 158, 159, 160, 161, 162, 163, 164, 165, 166, 167, 168, 169, 170, 171, 172, 173, 174, 175, 176, 177, 178, 179, 180, 181, 182, 183, 184, 185, 186, 187, 188, 189, 190, 191, 192, 193, 194, 195, 196] rfl ?_
                                          clear vs
                                          refine K.GL.nil ?_
                                          refine K.GQ.go ?_
                                          refine K.GC.condB rfl (fun h14 => ?_) (fun h14 => ?_)
                                          · first
                                            | exact absurd h14 (by decide)
                                            | try replace h14 := of_decide_eq_true h14
                                              refine K.GC.seq ?_
                                              refine K.GC.region ?_
                                              refine K.GL.det (K.e_assign rfl) rfl ?_
                                              refine K.GL.nil ?_
                                              refine K.GQ.go ?_
                                              refine K.GC.ret ?_
                                              refine K.GQ.block_ret ?_
                                              refine K.GQ.then_ret ?_
                                              refine K.GQ.then_ret ?_
                                              refine K.GQ.block_ret ?_
                                              refine K.GQ.block_ret ?_
                                              refine K.GQ.then_ret ?_
                                              refine K.GQ.then_ret ?_
                                              refine K.GQ.block_ret ?_
                                              refine K.GQ.then_ret ?_
                                              refine K.GQ.ret1 Try.results5 rfl (fun w hT => ?_)
                                              exact ⟨rfl, hT.nil⟩
                                          · first
                                            | exact absurd h14 (by decide)
                                            | try replace h14 := of_decide_eq_false h14
                                              refine K.GC.skip ?_
                                              refine K.GQ.block_normal ?_
                                              refine K.GQ.go ?_
                                              refine K.GC.region ?_
                                              refine K.GL.det (K.e_move rfl) rfl ?_
                                              first | refine K.GL.det (K.e_add rfl rfl ⟨by omega, by omega⟩) rfl ?_ | refine K.GL.det (K.e_addw rfl rfl) rfl ?_
                                              refine K.GL.det (K.e_assign rfl) rfl ?_
                                              refine K.GL.nil ?_
                                              exact K.GQ.round (n + 1) (by omega) (by omega) (by (repeat refine ⟨rfl, ?_⟩); exact trivial) (Sub.refl _)
                                    · first
                                      | exact absurd h13 (by decide)
                                      | try replace h13 := of_decide_eq_false h13
                                        refine K.GC.exit ?_
                                        refine K.GQ.then_exit ?_
                                        refine K.GQ.then_exit ?_
                                        refine K.GQ.block_hit ?_
                                        refine K.GQ.block_normal ?_
                                        refine K.GQ.go ?_
                                        refine K.GC.region ?_
                                        refine K.GL.det (K.e_move rfl) rfl ?_
                                        first | refine K.GL.det (K.e_add rfl rfl ⟨by omega, by omega⟩) rfl ?_ | refine K.GL.det (K.e_addw rfl rfl) rfl ?_
                                        refine K.GL.det (K.e_assign rfl) rfl ?_
                                        refine K.GL.nil ?_
                                        exact K.GQ.round (u + 1) (by omega) (by omega) (by (repeat refine ⟨rfl, ?_⟩); exact trivial) (Sub.take (i := 1) rfl (Sub.take (i := 1) rfl (Sub.take (i := 1) rfl (Sub.take (i := 1) rfl (Sub.nil _)))))
                      · first
                        | exact absurd h9 (by decide)
                        | try replace h9 := of_decide_eq_false h9
                          refine K.GC.exit ?_
                          refine K.GQ.then_exit ?_
                          refine K.GQ.then_exit ?_
                          refine K.GQ.block_hit ?_
                          refine K.GQ.go ?_
                          refine K.GC.seq ?_
                          refine K.GC.region ?_
                          refine K.GL.det (K.e_move rfl) rfl ?_
                          refine K.GL.det (K.e_assign rfl) rfl ?_
                          refine K.GL.nil ?_
                          refine K.GQ.go ?_
                          refine K.GC.ret ?_
                          refine K.GQ.ret1 Try.results5 rfl (fun w hT => ?_)
                          exact ⟨rfl, hT.nil⟩
theorem cellsHurt : Try.prog.cellsOf 51 = 3 := by kernel_rfl

set_option maxHeartbeats 1000000 in
set_option maxRecDepth 100000 in
theorem DevPlace_lifted (os : Os) (started : os.Started) (H : Type) (enc : TypeId × Value → H) :
    ReturnsInHanded {} Try.checked os 5 .any (Rows.devPlaceSpec.pre6 enc Try.prog Try.f5 Rows.devPlaceRow.domain false) (Rows.devPlaceSpec.post enc Try.prog Try.f5 false true false false) := by
  refine returnsInHanded_of_change_sized (C := Try.checked) own started (by kernel_rfl) Try.func5
    (ChangeSpec.witness6 (enc := enc) (C := Try.checked) false ⟨#[], #[.slice none 0 0, .int .u8 0, .agg #[.int .i64 0, .int .i64 0, .int .u32 0]], []⟩ 8 (by kernel_rfl) (by kernel_rfl) (by kernel_rfl) (by kernel_rfl)) ?_
  intro W base args ds gs before hval0 hW _ hsz0 _
  have hval : ∀ (j : Nat) t v, Try.f5.params[j]? = some t → args[j]? = some v → Value.okWide Try.prog W .any base t v := hval0
  have hsz : (DataW.weightsEach Try.prog (Try.f5.params.toList ++ []) (ds ++ gs)).all (· ≤ reachBytes) = true := hsz0
  have hW' := hW
  obtain ⟨p, q, hA0, hV, hpe, hfz, hnd⟩ := hW
  have hA : DataW.TrodAll enc Try.prog W 0 (fun _ => true) true Try.f5.params.toList args.toList ds p := hA0
  obtain ⟨rfl, rfl⟩ := trodVars_none hV
  rw [Try.params5] at hA hval hsz
  obtain ⟨v0, vs0, d0, ds0, p0, q0, hargs, rfl, rfl, h0, r0⟩ := trodAll_cons hA
  obtain ⟨v1, vs1, d1, ds1, p1, q1, rfl, rfl, rfl, h1, r1⟩ := trodAll_cons r0
  obtain ⟨v2, vs2, d2, ds2, p2, q2, rfl, rfl, rfl, h2, r2⟩ := trodAll_cons r1
  obtain ⟨rfl, rfl, rfl⟩ := trodAll_nil r2
  obtain rfl : args = #[v0, v1, v2] := by cases args; simp_all
  clear hA0 hval0 hsz0 hA hargs
  obtain ⟨ax, nx, cx, rfl⟩ := okWide_slice Try.underlying22 (hval 0 22 _ rfl rfl)
  obtain ⟨fuelx, hfx⟩ := h0
  obtain ⟨ax', nx', cx', lx, hcsx, hnx, hSx, hGx⟩ := open_ops hfx
  have hcsx' : Value.slice ax nx cx = .slice ax' nx' cx' := by simpa [Value.cells] using hcsx
  simp only [Value.slice.injEq] at hcsx'
  obtain ⟨rfl, rfl, rfl⟩ := hcsx'
  unfold maxLen at hnx
  obtain ⟨k, rfl, rfl, rfl, wk⟩ := open_int Try.underlying5 (hval 1 5 _ rfl rfl) h1
  have bk := bounds_u8 wk
  obtain ⟨k, rfl⟩ := Int.eq_ofNat_of_zero_le bk.1
  obtain ⟨e0, e1, e2, y0, y1, y2, m, rfl, rfl, rfl, hy0, hy1, hy2⟩ := open_agg3 Try.underlying51 (by kernel_rfl) cellsHurt (hval 2 51 _ rfl rfl) h2
  obtain ⟨hw, f0, rfl, g0⟩ := DataW.trod_int Try.underlying3 hy0
  obtain ⟨ha, f1, rfl, g1⟩ := DataW.trod_int Try.underlying3 hy1
  obtain ⟨hb, f2, rfl, g2⟩ := DataW.trod_int Try.underlying49 hy2
  simp only [List.cons.injEq, and_true] at f0 f1 f2
  subst f0 f1 f2
  have bb := bounds_u32 g2
  obtain ⟨hb, rfl⟩ := Int.eq_ofNat_of_zero_le bb.1
  have core : Calls Try.prog 5 #[.slice ax nx cx, .int .u8 (k : Int), .agg #[.int .i64 hw, .int .i64 ha, .int .u32 (hb : Int)]] W fun e W' => e = .returned (.bool true) ∧ Tr W [] W' [] := place_any W hSx (by omega) (by omega) (bounds_i64 g0) (bounds_i64 g1) (by omega)
  exact core.mono fun e W' ⟨he, hT⟩ => ⟨_, he, law_post (tb := 4) hW' rfl rfl Try.underlying4 (fun _ => rfl) laidOut (by kernel_rfl) hT.below⟩
theorem DevPlace_holds : Rows.DevPlaceSaid :=
  OpenClaim.holds_of_wide 5 Try.f5 rfl rfl rfl rfl rfl rfl rfl ⟨rfl, rfl, rfl, rfl, rfl⟩ rfl rfl rfl rfl rfl (by kernel_rfl) Try.func5 (by kernel_rfl)
    (of_decide_eq_true (by kernel_rfl)) (by unfold Func.isWrapper; first | (rw [if_pos (by decide +kernel)]; kernel_rfl) | (rw [if_neg (by decide +kernel)]; exact ⟨rfl, rfl⟩))
    (fun os started H enc _ => DevPlace_lifted os started H enc)

end Go.Proofs.Ytgkdnecjokhkcaa
