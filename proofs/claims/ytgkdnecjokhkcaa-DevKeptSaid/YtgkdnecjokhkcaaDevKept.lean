/- DevKept returns true for all calls, and whatever is kept, and turns nothing. -/
import Derived.ProofKit
import Derived.OpenShut
import Derived.SizedLaws
import Derived.Lib.SmallJoins
import Derived.Test.YtgkdnecjokhkcaaRows
import Derived.Test.YtgkdnecjokhkcaaDevO
namespace Go.Proofs.Ytgkdnecjokhkcaa
open Go Go.K Go.ChangeShapes Go.WideShapes Go.ChangeAt Go.RowKit Go.Joins
set_option linter.unusedVariables false
set_option linter.unusedSimpArgs false
attribute [local irreducible] Calls Ev GL GC GQ GR Code.wp
theorem own : ownKnob Try.prog.godebug = none := by kernel_rfl
theorem laidOut : laidOutB Try.prog = true := by kernel_rfl
theorem secOf_inj {a b : UInt8} (h : secOf a = secOf b) : a = b := by
  have h1 := congrArg Subtype.val h
  have h2 := congrArg (fun l : List UInt8 => l[0]?) h1
  simpa [secOf] using h2
structure Kp (s : DS) (k l : Nat → UInt8) : Prop where
  len : s.kept.length = 8
  K : ∀ j, j < 8 → s.K j = secOf (k j)
  A : ∀ j, j < 8 → s.A j = secOf (l j)
theorem Kp.new : Kp (DS.new 8) (fun _ => 0) (fun _ => 0) := by
  have h : ∀ j, j < 8 → (DS.new 8).K j = secOf 0 := fun j hj => by
    show (List.replicate 8 (secOf 0))[j]?.getD (secOf 0) = _
    rw [List.getElem?_replicate, if_pos hj]; rfl
  exact ⟨by simp [DS.new], h, fun j hj => h j hj⟩
theorem Kp.flush {s : DS} {k l : Nat → UInt8} (h : Kp s k l) : (s.flush.2 = 0 ∧ Kp s.flush.1 l l) ∨ (s.flush.2 = 71 ∧ Kp s.flush.1 k l) := by
  have hl := h.len
  cases ha : s.able with
  | true =>
    left
    rw [DS.flush_yy ha]
    have hd : s.did.kept.length = 8 := hl
    refine ⟨rfl, (DS.flushed_length _).trans hd, fun j hj => ?_, fun j hj => ?_⟩
    · rw [DS.flushed_K (by omega)]; exact h.A j hj
    · rw [DS.flushed_A (by omega)]; exact h.A j hj
  | false =>
    right
    rw [DS.flush_nn ha]
    exact ⟨rfl, hl, h.K, h.A⟩
theorem Kp.cut {s : DS} {k l : Nat → UInt8} (h : Kp s k l) (i : Int) : Kp (s.setCut i) k l := by
  unfold DS.setCut
  split
  · exact ⟨h.len, h.K, h.A⟩
  · exact h
theorem Kp.write {s : DS} {k l : Nat → UInt8} (h : Kp s k l) (i : Int) (c : UInt8) :
    ((s.write i (secOf c).1).2 = 0 ∧ ∃ j : Nat, i = j ∧ j < 8 ∧ Kp (s.write i (secOf c).1).1 k (fun x => if x = j then c else l x)) ∨ ((s.write i (secOf c).1).2 ≠ 0 ∧ Kp (s.write i (secOf c).1).1 k l) := by
  have hl := h.len
  by_cases hi : 0 ≤ i ∧ i < 8
  · obtain ⟨j, rfl⟩ := Int.eq_ofNat_of_zero_le hi.1
    have hj : j < 8 := by omega
    cases ha : s.able with
    | true =>
      left
      rw [DS.write_y (by omega) ha]
      refine ⟨rfl, j, rfl, hj, hl, h.K, fun x hx => ?_⟩
      unfold DS.A
      by_cases e : x = j
      · subst e; simp
      · simp only [e, if_false]; exact h.A x hx
    | false =>
      right
      rw [DS.write_n (by omega) ha]
      exact ⟨show (71 : Int) ≠ 0 by decide, hl, h.K, h.A⟩
  · right
    rw [DS.write_bad (by omega)]
    exact ⟨show (1 : Int) ≠ 0 by decide, h⟩
structure KI (s : DS) (i k : Nat) : Prop where
  le : k ≤ s.list.length
  lo : ∀ t v, t < k → s.list[t]? = some v → v < i
  hi : ∀ t v, k ≤ t → s.list[t]? = some v → i ≤ v
theorem KI.zero (s : DS) : KI s 0 0 := ⟨by omega, fun t v h => by omega, fun t v _ _ => by omega⟩
theorem KI.end_ {s : DS} {k : Nat} (h : KI s 8 k) (hl : s.kept.length = 8) : k = s.list.length := by
  have h1 := h.le
  apply Classical.byContradiction
  intro hne
  obtain ⟨v, hv⟩ : ∃ v, s.list[k]? = some v := get_ex (by omega)
  have h2 := h.hi k v (Nat.le_refl _) hv
  have h3 := (DS.list_mem.1 (List.mem_of_getElem? hv)).1
  omega
theorem Kp.out {s : DS} {fk fl : Nat → UInt8} (h : Kp s fk fl) {i k : Nat} (hi : i < 8) (hk : KI s i k) (ks : List Bool) (hn : ∀ v, s.list[k]? = some v → v ≠ i) : fk i = fl i ∧ KI s (i + 1) k ∧ ∃ cw, cw = fk i ∧ (s.boot ks []).A i = secOf cw := by
  have hl := h.len
  have no : ∀ t, s.list[t]? ≠ some i := fun t ht => by
    by_cases h1 : t < k
    · have := hk.lo t i h1 ht; omega
    · by_cases h2 : t = k
      · subst h2; exact hn i ht rfl
      · have hv : ∃ v, s.list[k]? = some v := get_ex (by have := (List.getElem?_eq_some_iff.1 ht).1; omega)
        obtain ⟨v, hv⟩ := hv
        have h3 := DS.list_inc hv ht (by omega)
        have h4 := hk.hi k v (Nat.le_refl _) hv
        omega
  have hlo : s.loose i = none := by
    cases e : s.loose i with
    | none => rfl
    | some y =>
      obtain ⟨t, ht⟩ := List.mem_iff_getElem?.1 ((DS.list_mem (s := s) (i := i)).2 ⟨by omega, by rw [e]; rfl⟩)
      exact absurd ht (no t)
  refine ⟨secOf_inj ?_, ⟨hk.le, fun t v h1 h2 => Nat.lt_succ_of_lt (hk.lo t v h1 h2), fun t v h1 h2 => ?_⟩, _, rfl, ?_⟩
  · rw [← h.K i hi, ← h.A i hi, DS.A_none hlo]
  · have h3 := hk.hi t v h1 h2
    have h4 : v ≠ i := fun e => no t (by rw [h2, e])
    omega
  · rw [DS.boot_no (by omega) (fun ⟨t, _, h1, _⟩ => no t h1)]; exact h.K i hi
theorem Kp.cases {s : DS} {fk fl : Nat → UInt8} (h : Kp s fk fl) {i k : Nat} (hi : i < 8) (hk : KI s i k) (ks : List Bool) :
    ((s.list.length : Int) ≤ k ∧ fk i = fl i ∧ KI s (i + 1) k ∧ ∃ cw, cw = fk i ∧ (s.boot ks []).A i = secOf cw) ∨ (∃ v, k < s.list.length ∧ s.list[k]? = some v ∧ (v : Int) ≠ i ∧ fk i = fl i ∧ KI s (i + 1) k ∧ ∃ cw, cw = fk i ∧ (s.boot ks []).A i = secOf cw) ∨
    ∃ v, k < s.list.length ∧ s.list[k]? = some v ∧ (v : Int) = i ∧ KI s (i + 1) (k + 1) := by
  by_cases h1 : s.list.length ≤ k
  · exact .inl ⟨by omega, h.out hi hk ks fun v hv => by have := (List.getElem?_eq_some_iff.1 hv).1; omega⟩
  · obtain ⟨v, hv⟩ : ∃ v, s.list[k]? = some v := get_ex (by omega)
    by_cases h2 : v = i
    · subst h2
      refine .inr (.inr ⟨v, by omega, hv, rfl, by omega, fun t u h3 h4 => ?_, fun t u h3 h4 => ?_⟩)
      · by_cases h5 : t = k
        · subst h5; rw [hv] at h4; cases h4; omega
        · have := hk.lo t u (by omega) h4; omega
      · have := DS.list_inc hv h4 (by omega); omega
    · exact .inr (.inl ⟨v, by omega, hv, by omega, h.out hi hk ks fun u hu => by rw [hv] at hu; cases hu; exact h2⟩)
theorem Kp.keep {s : DS} {fk fl : Nat → UInt8} (h : Kp s fk fl) {i k : Nat} (hi : i < 8) (hv : s.list[k]? = some i) (ks : List Bool) :
    ((ks.length : Int) ≤ k ∧ ∃ cw, cw = fk i ∧ (s.boot ks []).A i = secOf cw) ∨ (k < ks.length ∧ ks[k]? = some false ∧ ∃ cw, cw = fk i ∧ (s.boot ks []).A i = secOf cw) ∨ (k < ks.length ∧ ks[k]? = some true ∧ ∃ cw, cw = fl i ∧ (s.boot ks []).A i = secOf cw) := by
  have hl := h.len
  have no : ks[k]? ≠ some true → ∃ cw, cw = fk i ∧ (s.boot ks []).A i = secOf cw := fun hn => ⟨_, rfl, by
    rw [DS.boot_no (by omega) (fun ⟨t, _, h1, h2⟩ => hn (by rw [← DS.list_inj h1 hv]; exact h2))]; exact h.K i hi⟩
  by_cases h1 : ks.length ≤ k
  · exact .inl ⟨by omega, no (by rw [List.getElem?_eq_none h1]; simp)⟩
  · obtain ⟨b, hb⟩ : ∃ b, ks[k]? = some b := get_ex (by omega)
    cases b with
    | false => exact .inr (.inl ⟨by omega, hb, no (by rw [hb]; simp)⟩)
    | true => exact .inr (.inr ⟨by omega, hb, _, rfl, by
        rw [DS.boot_yes (by omega) ⟨k, (List.getElem?_eq_some_iff.1 hv).1, hv, hb⟩]; exact h.A i hi⟩)
theorem bools_flat : ∀ l : List Bool, (l.flatMap fun b => [Value.bool b]) = l.map .bool
  | [] => rfl
  | b :: l => by rw [List.flatMap_cons, bools_flat l]; rfl
theorem get_boolb {ks : List Bool} {k o : Nat} {b : Bool} (h : ks[k]? = some b) (ho : o = k) : (ks.map Value.bool)[o]? = some (.bool b) := by subst ho; rw [List.getElem?_map, h]; rfl
theorem open_bools {H : Type} {enc : TypeId × Value → H} {w : World} {held : Bool} {fuel : Nat} {cs : List Value} {x : DataW H × List MemPlace} (h : DataW.trod enc Try.prog w 0 (fun _ => true) held fuel 30 cs = some x) :
    ∃ (a : Option Addr) (n c : Nat) (l : List Bool), cs = [.slice a n c] ∧ n ≤ maxLen ∧ Sl w 1 a n (l.map .bool) := by
  obtain ⟨a, n, c, l, h1, h2, h3, _⟩ := open_things (α := Bool) (enc' := fun b => [.bool b]) (Good := fun _ => True) (k := 1) (by omega) (fun _ => rfl) Try.underlying30 (by kernel_rfl)
    (fun n cs x hx => by obtain ⟨b, rfl, _⟩ := DataW.trod_bool Try.underlying4 hx; exact ⟨b, rfl, trivial⟩) h
  rw [bools_flat] at h3
  exact ⟨a, n, c, l, h1, h2, h3⟩
theorem Sl.apart {w w' : World} {L : List Res} {a : Option Addr} {n k : Nat} {xs : List Value} (h : Sl w k a n xs) (hk : 0 < k) (hT : Tr w [] w' L) {r : Res} (hr : r ∈ L) (hn : 0 < n) : ¬ r.fp (bk a) := fun hf => by
  rcases hT.new r hr _ hf with h1 | ⟨s, hs, _⟩
  · have hlen := h.len
    have hpos : 0 < xs.length := by rw [hlen]; exact Nat.mul_pos hn hk
    obtain ⟨v, hv⟩ : ∃ v, xs[0]? = some v := get_ex hpos
    have hc := h.cell 0 v hv
    unfold World.cell? at hc
    rw [Array.getElem?_eq_none h1] at hc
    cases hc
  · cases hs

theorem arr47 : K.arrOf Try.prog 47 = some (8, 5, 1) := by kernel_rfl
theorem fo33_0 : K.fieldOff Try.prog 33 0 = some (3, 0, 1) := by kernel_rfl
theorem fo33_1 : K.fieldOff Try.prog 33 1 = some (3, 1, 1) := by kernel_rfl
theorem fo33_2 : K.fieldOff Try.prog 33 2 = some (5, 2, 1) := by kernel_rfl
/- turntable/turntablelaw07.DevKept -/
set_option maxHeartbeats 16000000 in
set_option maxRecDepth 100000 in
theorem kept_any {a1 a2 : Option Addr} {n1 c1 n2 c2 : Nat} {ol : List OX} {ks : List Bool} (w : World) (hL : Sl w 6 a1 n1 (ol.flatMap encO)) (hB : Sl w 1 a2 n2 (ks.map .bool)) (hG : ∀ y ∈ ol, OGood y) (hn1 : n1 ≤ 9223372036854775807) (hn2 : n2 ≤ 9223372036854775807) :
    Calls Try.prog 4 #[.slice a1 n1 c1, .slice a2 n2 c2] w fun e w' => e = .returned (.bool true) ∧ Tr w [] w' [] := by
  have hl1 : ol.length = n1 := hL.count (by omega) encO_len
  have hlk : ks.length = n2 := by have := hB.len; rw [List.length_map] at this; omega
  refine K.enter0 (args := [_, _]) Try.func4 rfl Try.ntmps4 rfl ?_
  refine K.GC.seq ?_
  refine K.GC.region ?_
  refine K.GL.det (K.e_assign rfl) rfl ?_
  refine K.GL.nil ?_
  refine K.GQ.go ?_
  refine K.GC.seq ?_
  refine K.GC.region ?_
  refine K.GL.det (K.e_call1 Try.call9 rfl (fun w hT => head_con)) rfl ?_
  refine K.GL.det (K.e_assign rfl) rfl ?_
  refine K.GL.nil ?_
  refine K.GQ.go ?_
  refine K.GC.seq ?_
  refine K.GC.region ?_
  refine gl_new (n := 8) Try.call11 rfl (by omega) rfl (fun d g hkg hvg => ?_)
  have hkp : Kp g.v (fun _ => 0) (fun _ => 0) := by rw [hvg]; exact Kp.new
  refine K.GL.det (K.e_assign rfl) rfl ?_
  refine K.GL.nil ?_
  refine K.GQ.go ?_
  refine K.GC.seq ?_
  refine K.GC.seq ?_
  refine K.GC.region ?_
  refine K.GL.det (K.e_move rfl) rfl ?_
  refine K.GL.det ((K.e_eqlp Try.underlying25 rfl rfl).cast_bool (b := false) rfl) rfl ?_
  refine K.GL.det (K.e_move rfl) rfl ?_
  first | refine K.GL.splitB 21 rfl (fun h1 => ?_) (fun h1 => ?_) | skip
  all_goals first | exact absurd h1 (by decide) | replace h1 := of_decide_eq_true h1 | replace h1 := of_decide_eq_false h1 | skip
  all_goals
    first | (refine K.GL.want 21 rfl rfl rfl ?_; first | refine K.GL.det (K.e_move rfl) rfl ?_) | refine K.GL.skip 21 rfl rfl rfl rfl ?_ | refine K.GL.skipU 21 rfl rfl rfl rfl ?_
    first
      | refine K.GL.skip 21 rfl rfl rfl rfl ?_
      | refine K.GL.skipU 21 rfl rfl rfl rfl ?_
      | (refine K.GL.want 21 rfl rfl rfl ?_
         refine gl_great (l := ol) Try.call10 rfl (fun w hT => hL.stay hT (fun r hr => by cases hr)) (by omega) rfl (fun gr23 hg23 => ?_)
         rcases gr23 with _ | _)
    all_goals
      first | refine K.GL.det (K.e_pick_t rfl rfl) rfl ?_ | refine K.GL.det (K.e_pick_f rfl rfl) rfl ?_
      refine K.GL.det (K.e_move rfl) rfl ?_
      first | refine K.GL.splitB 25 rfl (fun h2 => ?_) (fun h2 => ?_) | skip
      all_goals first | exact absurd h2 (by decide) | replace h2 := of_decide_eq_true h2 | replace h2 := of_decide_eq_false h2 | skip
      all_goals
        first | (refine K.GL.want 25 rfl rfl rfl ?_; first | refine K.GL.det (K.e_move rfl) rfl ?_) | refine K.GL.skip 25 rfl rfl rfl rfl ?_ | refine K.GL.skipU 25 rfl rfl rfl rfl ?_
        first | (refine K.GL.want 25 rfl rfl rfl ?_; first | refine K.GL.det (K.e_len Try.underlying30 rfl) rfl ?_) | refine K.GL.skip 25 rfl rfl rfl rfl ?_ | refine K.GL.skipU 25 rfl rfl rfl rfl ?_
        first | (refine K.GL.want 25 rfl rfl rfl ?_; first | refine K.GL.det ((K.e_gt rfl rfl).yes (by first | omega | assumption | decide +kernel)) rfl ?_ | refine K.GL.det ((K.e_gt rfl rfl).no (by first | omega | assumption | decide +kernel)) rfl ?_ | refine K.GL.det (K.e_gt rfl rfl) rfl ?_) | refine K.GL.skip 25 rfl rfl rfl rfl ?_ | refine K.GL.skipU 25 rfl rfl rfl rfl ?_
        first | refine K.GL.det (K.e_pick_t rfl rfl) rfl ?_ | refine K.GL.det (K.e_pick_f rfl rfl) rfl ?_
        refine K.GL.nil ?_
        refine K.GQ.go ?_
        refine K.GC.condB rfl (fun h3 => ?_) (fun h3 => ?_)
        · first
          | exact absurd h3 (by decide)
          | try replace h3 := of_decide_eq_true h3
            refine K.GC.seq ?_
            refine K.GC.region ?_
            refine K.GL.det (K.e_move rfl) rfl ?_
            refine K.GL.det ((K.e_neqp Try.underlying25 rfl rfl).cast_bool (b := true) rfl) rfl ?_
            refine K.GL.det (K.e_move rfl) rfl ?_
            first | refine K.GL.splitB 32 rfl (fun h4 => ?_) (fun h4 => ?_) | skip
            all_goals first | exact absurd h4 (by decide) | replace h4 := of_decide_eq_true h4 | replace h4 := of_decide_eq_false h4 | skip
            all_goals
              first | (refine K.GL.want 32 rfl rfl rfl ?_; first | refine K.GL.det (K.e_move rfl) rfl ?_) | refine K.GL.skip 32 rfl rfl rfl rfl ?_ | refine K.GL.skipU 32 rfl rfl rfl rfl ?_
              first | refine K.GL.det (K.e_pick_t rfl rfl) rfl ?_ | refine K.GL.det (K.e_pick_f rfl rfl) rfl ?_
              refine K.GL.det (K.e_assign rfl) rfl ?_
              refine K.GL.nil ?_
              refine K.GQ.go ?_
              refine K.GC.ret ?_
              refine K.GQ.then_ret ?_
              refine K.GQ.ret1 Try.results4 rfl (fun w hT => ?_)
              exact ⟨rfl, hT.nil⟩
        · first
          | exact absurd h3 (by decide)
          | try replace h3 := of_decide_eq_false h3
            refine K.GC.skip ?_
            refine K.GQ.go ?_
            refine K.GC.seq ?_
            refine K.GC.region ?_
            refine K.GL.alloc Try.zeroValue47 rfl rfl (fun b7 => ?_)
            refine K.GL.nil ?_
            refine K.GQ.go ?_
            refine K.GC.seq ?_
            refine K.GC.region ?_
            refine K.GL.alloc Try.zeroValue47 rfl rfl (fun b8 => ?_)
            refine K.GL.nil ?_
            refine K.GQ.go ?_
            refine K.GC.seq ?_
            refine K.GC.seq ?_
            refine K.GC.region ?_
            refine K.GL.det (K.e_assign rfl) rfl ?_
            refine K.GL.nil ?_
            refine K.GQ.go ?_
            refine K.GC.block ?_
            refine K.GC.loopk (α := Nat × DG × (Nat → UInt8) × (Nat → UInt8)) [0, 1, 5, 6, 7, 8, 11, 12, 13, 14, 15, 16, 84, 85, 86, 87, 89, 90, 91, 92, 93, 94, 95, 96, 97, 98, 99, 100, 101, 102, 103, 104, 105, 106, 107, 108, 109, 110, 111, 112, 113, 114, 115, 116, 117, 118, 119, 120, 121, 122, 123, 124, 125, 126, 127, 128, 129, 130, 131, 132, 133, 134, 135, 136, 137, 138, 139, 140, 141, 142, 143, 144, 145, 146, 147, 148, 149, 150, 151, 152, 153, 154, 155, 156, 157, 158, 159, 160, 161, 162, 163] rfl (fun x => [(9, .int .i64 (x.1 : Int))]) (fun x => [DevR d x.2.1, cl b7 47 (bl x.2.2.1), cl b8 47 (bl x.2.2.2)]) (fun x => x.1 ≤ n1 ∧ x.2.1.Ok ∧ Kp x.2.1.v x.2.2.1 x.2.2.2) (fun x => (n1 - x.1)) (0, g, fun _ => 0, fun _ => 0) ⟨Nat.zero_le _, hkg, hkp⟩ (by (repeat refine ⟨rfl, ?_⟩); exact trivial) (Sub.take (i := 2) rfl (Sub.take (i := 1) rfl (Sub.take (i := 0) rfl (Sub.nil _)))) (fun x hI => ?_)
            obtain ⟨x, g1, fk, fl⟩ := x
            obtain ⟨hx, hkg1, hkp1⟩ := hI
            simp only at hx hkg1 hkp1 ⊢
            refine K.GC.seq ?_
            refine K.GC.seq ?_
            refine K.GC.region ?_
            refine K.GL.det (K.e_move rfl) rfl ?_
            refine K.GL.det (K.e_move rfl) rfl ?_
            refine K.GL.det (K.e_len Try.underlying22 rfl) rfl ?_
            first | refine K.GL.det ((K.e_lt rfl rfl).yes (by first | omega | assumption | decide +kernel)) rfl ?_ | refine K.GL.det ((K.e_lt rfl rfl).no (by first | omega | assumption | decide +kernel)) rfl ?_ | refine K.GL.det (K.e_lt rfl rfl) rfl ?_
            refine K.GL.nil ?_
            refine K.GQ.go ?_
            refine K.GC.condB rfl (fun h5 => ?_) (fun h5 => ?_)
            · first
              | exact absurd h5 (by decide)
              | try replace h5 := of_decide_eq_true h5
                refine K.GC.skip ?_
                refine K.GQ.go ?_
                refine K.GC.seq ?_
                refine K.GC.block ?_
                refine K.GC.seq ?_
                obtain ⟨q, hq⟩ : ∃ q, ol[x]? = some q := get_ex (by omega)
                refine K.GC.region ?_
                refine K.GL.det (K.e_move rfl) rfl ?_
                refine K.GL.det (K.e_move rfl) rfl ?_
                refine K.GL.det (K.e_indexAddrS sl22 rfl rfl hL (by omega) (by omega)) rfl ?_
                refine K.GL.det (K.e_loads_old Try.isAgg33 Try.sizeOf33 rfl (hL.item encO_len hq) rfl) rfl ?_
                refine K.GL.alloc Try.zeroValue33 rfl rfl (fun b10 => ?_)
                refine K.GL.store rfl rfl rfl Try.sizeOf33 rfl rfl ?_
                refine K.GL.nil ?_
                refine K.GQ.go ?_
                refine K.GC.seq ?_
                refine K.GC.region ?_
                refine K.GL.det (K.e_fieldAddr fo33_0 rfl) rfl ?_
                first | refine K.GL.det (K.e_load Try.isAgg3 rfl rfl) rfl ?_ | refine K.GL.det (K.e_load0 Try.isAgg3 rfl (by assumption)) rfl ?_
                refine K.GL.nil ?_
                refine K.GQ.go ?_
                refine K.GC.block ?_
                refine K.GC.seq ?_
                refine K.GC.region ?_
                first | refine K.GL.det ((K.e_eq rfl rfl).yes (by first | omega | assumption | decide +kernel)) rfl ?_ | refine K.GL.det ((K.e_eq rfl rfl).no (by first | omega | assumption | decide +kernel)) rfl ?_ | refine K.GL.det (K.e_eq rfl rfl) rfl ?_
                refine K.GL.det (K.e_assign rfl) rfl ?_
                refine K.GL.nil ?_
                refine K.GQ.go ?_
                refine K.GC.condB rfl (fun h6 => ?_) (fun h6 => ?_)
                · first
                  | exact absurd h6 (by decide)
                  | try replace h6 := of_decide_eq_true h6
                    refine K.GC.seq ?_
                    refine K.GC.region ?_
                    refine K.GL.det (K.e_move rfl) rfl ?_
                    refine gl_flush Try.call15 rfl hkg1 rfl (fun g1 hkg1 hvg1 => ?_)
                    rcases hkp1.flush with ⟨he, hkp1⟩ | ⟨he, hkp1⟩ <;> rw [← hvg1] at hkp1 <;> rw [he]
                    all_goals
                      first | refine K.GL.det ((K.e_eq rfl rfl).yes (by first | omega | assumption | decide +kernel)) rfl ?_ | refine K.GL.det ((K.e_eq rfl rfl).no (by first | omega | assumption | decide +kernel)) rfl ?_ | refine K.GL.det (K.e_eq rfl rfl) rfl ?_
                      refine K.GL.nil ?_
                      refine K.GQ.go ?_
                      refine K.GC.condB rfl (fun h7 => ?_) (fun h7 => ?_)
                      · first
                        | exact absurd h7 (by decide)
                        | try replace h7 := of_decide_eq_true h7
                          refine K.GC.region ?_
                          refine K.GL.det (K.e_loadsP Try.isAgg47 Try.sizeOf47 rfl (takeO_all (by simp [bl]))) rfl ?_
                          refine K.GL.storeP (vs := bl fl) (cs' := bl fl) rfl rfl rfl Try.sizeOf47 rfl rfl (spliceO_all (by simp [bl])) ?_
                          refine K.GL.nil ?_
                          refine K.GQ.block_normal ?_
                          refine K.GQ.block_normal ?_
                          refine K.GQ.go ?_
                          refine K.GC.region ?_
                          refine K.GL.det (K.e_move rfl) rfl ?_
                          first | refine K.GL.det (K.e_add rfl rfl ⟨by omega, by omega⟩) rfl ?_ | refine K.GL.det (K.e_addw rfl rfl) rfl ?_
                          refine K.GL.det (K.e_assign rfl) rfl ?_
                          refine K.GL.nil ?_
                          exact K.GQ.round (x + 1, g1, _, _) ⟨by simp only; omega, hkg1, hkp1⟩ (by simp only; omega) (by (repeat refine ⟨rfl, ?_⟩); exact trivial) (by first | exact (Sub.take (i := 0) rfl (Sub.take (i := 1) rfl (Sub.take (i := 1) rfl (Sub.nil _)))) | exact (Sub.take (i := 0) rfl (Sub.take (i := 2) rfl (Sub.take (i := 2) rfl (Sub.nil _)))) | exact (Sub.take (i := 1) rfl (Sub.take (i := 1) rfl (Sub.take (i := 1) rfl (Sub.nil _)))))
                      · first
                        | exact absurd h7 (by decide)
                        | try replace h7 := of_decide_eq_false h7
                          refine K.GC.skip ?_
                          refine K.GQ.block_normal ?_
                          refine K.GQ.block_normal ?_
                          refine K.GQ.go ?_
                          refine K.GC.region ?_
                          refine K.GL.det (K.e_move rfl) rfl ?_
                          first | refine K.GL.det (K.e_add rfl rfl ⟨by omega, by omega⟩) rfl ?_ | refine K.GL.det (K.e_addw rfl rfl) rfl ?_
                          refine K.GL.det (K.e_assign rfl) rfl ?_
                          refine K.GL.nil ?_
                          exact K.GQ.round (x + 1, g1, _, _) ⟨by simp only; omega, hkg1, hkp1⟩ (by simp only; omega) (by (repeat refine ⟨rfl, ?_⟩); exact trivial) (by first | exact (Sub.take (i := 0) rfl (Sub.take (i := 1) rfl (Sub.take (i := 1) rfl (Sub.nil _)))) | exact (Sub.take (i := 0) rfl (Sub.take (i := 2) rfl (Sub.take (i := 2) rfl (Sub.nil _)))) | exact (Sub.take (i := 1) rfl (Sub.take (i := 1) rfl (Sub.take (i := 1) rfl (Sub.nil _)))))
                · first
                  | exact absurd h6 (by decide)
                  | try replace h6 := of_decide_eq_false h6
                    refine K.GC.seq ?_
                    refine K.GC.region ?_
                    first | refine K.GL.det ((K.e_eq rfl rfl).yes (by first | omega | assumption | decide +kernel)) rfl ?_ | refine K.GL.det ((K.e_eq rfl rfl).no (by first | omega | assumption | decide +kernel)) rfl ?_ | refine K.GL.det (K.e_eq rfl rfl) rfl ?_
                    refine K.GL.det (K.e_assign rfl) rfl ?_
                    refine K.GL.nil ?_
                    refine K.GQ.go ?_
                    refine K.GC.condB rfl (fun h8 => ?_) (fun h8 => ?_)
                    · first
                      | exact absurd h8 (by decide)
                      | try replace h8 := of_decide_eq_true h8
                        refine K.GC.region ?_
                        refine K.GL.det (K.e_move rfl) rfl ?_
                        refine K.GL.det (K.e_fieldAddr fo33_1 rfl) rfl ?_
                        first | refine K.GL.det (K.e_load Try.isAgg3 rfl rfl) rfl ?_ | refine K.GL.det (K.e_load0 Try.isAgg3 rfl (by assumption)) rfl ?_
                        refine gl_cut (i := q.at_) Try.call19 rfl hkg1 (hG q (List.mem_of_getElem? hq)).2 rfl (fun g1 hkg1 hvg1 u58 => ?_)
                        replace hkp1 := hkp1.cut q.at_
                        rw [← hvg1] at hkp1
                        refine K.GL.nil ?_
                        refine K.GQ.block_normal ?_
                        refine K.GQ.block_normal ?_
                        refine K.GQ.go ?_
                        refine K.GC.region ?_
                        refine K.GL.det (K.e_move rfl) rfl ?_
                        first | refine K.GL.det (K.e_add rfl rfl ⟨by omega, by omega⟩) rfl ?_ | refine K.GL.det (K.e_addw rfl rfl) rfl ?_
                        refine K.GL.det (K.e_assign rfl) rfl ?_
                        refine K.GL.nil ?_
                        exact K.GQ.round (x + 1, g1, _, _) ⟨by simp only; omega, hkg1, hkp1⟩ (by simp only; omega) (by (repeat refine ⟨rfl, ?_⟩); exact trivial) (by first | exact (Sub.take (i := 0) rfl (Sub.take (i := 1) rfl (Sub.take (i := 1) rfl (Sub.nil _)))) | exact (Sub.take (i := 0) rfl (Sub.take (i := 2) rfl (Sub.take (i := 2) rfl (Sub.nil _)))) | exact (Sub.take (i := 1) rfl (Sub.take (i := 1) rfl (Sub.take (i := 1) rfl (Sub.nil _)))))
                    · first
                      | exact absurd h8 (by decide)
                      | try replace h8 := of_decide_eq_false h8
                        refine K.GC.seq ?_
                        refine K.GC.seq ?_
                        refine K.GC.region ?_
                        first | refine K.GL.det ((K.e_eq rfl rfl).yes (by first | omega | assumption | decide +kernel)) rfl ?_ | refine K.GL.det ((K.e_eq rfl rfl).no (by first | omega | assumption | decide +kernel)) rfl ?_ | refine K.GL.det (K.e_eq rfl rfl) rfl ?_
                        refine K.GL.det (K.e_assign rfl) rfl ?_
                        refine K.GL.nil ?_
                        refine K.GQ.go ?_
                        refine K.GC.condB rfl (fun h9 => ?_) (fun h9 => ?_)
                        · first
                          | exact absurd h9 (by decide)
                          | try replace h9 := of_decide_eq_true h9
                            refine K.GC.skip ?_
                            refine K.GQ.go ?_
                            refine K.GC.condB rfl (fun h10 => ?_) (fun h10 => ?_)
                            · first
                              | exact absurd h10 (by decide)
                              | try replace h10 := of_decide_eq_true h10
                                refine K.GC.seq ?_
                                refine K.GC.drawn 6 [[], [], [1], [], [3], [3, 4], [0, 1, 2, 3, 4, 5], [0, 1, 2, 3, 4, 5, 6]] [[], [], [1], [], [3], [4]] [0, 1, 4, 5, 6, 7, 8, 9, 10, 11, 12, 13, 14, 15, 16, 35, 36, 37, 38, 39, 40, 41, 42, 43, 44, 45, 46, 47, 48, 49, 50, 51, 52, 53, 54, 55, 56, 57, 59, 60, 61, 62, 69, 70, 71, 72, 73, 74, 75, 76, 77, 78, 79, 80, 81, 82, 83, 84, 85, 86, 87, 89, 90, 91, 92, 93, 94, 95, 96, 97, 98, 99, 100, 101, 102, 103, 104, 105, 106, 107, 108, 109, 110, 111, 112, 113, 114, 115, 116, 117, 118, 119, 120, 121, 122, 123, 124, 125, 126, 127, 128, 129, 130, 131, 132, 133, 134, 135, 136, 137, 138, 139, 140, 141, 142, 143, 144, 145, 146, 147, 148, 149, 150, 151, 152, 153, 154, 155, 156, 157, 158, 159, 160, 161, 162, 163] (by kernel_rfl) (by kernel_rfl) rfl ?_
                                refine K.DW.det rfl (fun vs => K.e_move rfl) ?_
                                refine K.DW.det rfl (fun vs => K.e_fieldAddr fo33_1 rfl) ?_
                                first | refine K.DW.det rfl (fun vs => K.e_load Try.isAgg3 rfl rfl) ?_ | refine K.DW.det rfl (fun vs => K.e_load0 Try.isAgg3 rfl (by assumption)) ?_
                                refine K.DW.det rfl (fun vs => K.e_fieldAddr fo33_2 rfl) ?_
                                first | refine K.DW.det rfl (fun vs => K.e_load Try.isAgg5 rfl rfl) ?_ | refine K.DW.det rfl (fun vs => K.e_load0 Try.isAgg5 rfl (by assumption)) ?_
                                refine K.DW.evO (fun vs hf => K.e_call (Pv := fun u => ∃ b, u = .slice (some ⟨b, 0, none⟩) 64 64) (R := atPtr fun b => cl b 5 (sv (secOf (q.c)))) Try.call23 rfl (fun w hT => (full_con (q.c)).mono fun e w' ⟨b, h1, h2⟩ => ⟨_, h1, ⟨b, rfl⟩, h2⟩)) ?_
                                refine K.DW.fin (fun vs hf => ?_)
                                refine K.GL.keep [0, 1, 4, 5, 6, 7, 8, 9, 10, 11, 12, 13, 14, 15, 16, 35, 36, 37, 38, 39, 40, 41, 42, 43, 44, 45, 46, 47, 48, 49, 50, 51, 52, 53, 54, 55, 56, 57, 59, 60, 61, 62, 63, 64, 65, 66, 67, 68, 69, 70, 71, 72, 73, 74, 75, 76, 77, 78, 79, 80, 81, 82, 83, 84, 85, 86, 87, 89, 90, 91, 92, 93, 94, 95, 96, 97, 98, 99, 100, 101, 102, 103, 104, 105, 106, 107, 108, 109, 110, 111, 112, 113, 114, 115, 116, 117, 118, 119, 120, 121, 122, 123, 124, 125, 126, 127, 128, 129, 130, 131, 132, 133, 134, 135, 136, 137, 138, 139, 140, 141, 142, 143, 144, 145, 146, 147, 148, 149, 150, 151, 152, 153, 154, 155, 156, 157, 158, 159, 160, 161, 162, 163] rfl ?_
                                obtain ⟨⟨b68, e68⟩, _⟩ := hf
                                refine K.GL.own1 (F := [cl b10 33 (encO q), DevR d g1, cl b7 47 (bl fk), cl b8 47 (bl fl)]) e68 ?_
                                refine gl_write (i := q.at_) (bs := (secOf q.c).1) (a := some ⟨b68, 0, none⟩) (n := 64) (c := 64) Try.call13 (by rw [← e68]; rfl) hkg1 (fun w hT => own_slice hT (by simp)) rfl (fun g1 hkg1 hvg1 => ?_)
                                rcases hkp1.write q.at_ q.c with ⟨he, jn, hj, hj8, hkp1⟩ | ⟨he, hkp1⟩ <;> rw [← hvg1] at hkp1
                                all_goals
                                  first | refine K.GL.det ((K.e_eq rfl rfl).yes (by first | omega | assumption | decide +kernel)) rfl ?_ | refine K.GL.det ((K.e_eq rfl rfl).no (by first | omega | assumption | decide +kernel)) rfl ?_ | refine K.GL.det (K.e_eq rfl rfl) rfl ?_
                                  refine K.GL.nil ?_
                                  refine K.GQ.go ?_
                                  refine K.GC.condB rfl (fun h11 => ?_) (fun h11 => ?_)
                                  · first
                                    | exact absurd h11 (by decide)
                                    | try replace h11 := of_decide_eq_true h11
                                      refine K.GC.seq ?_
                                      refine K.GC.seq ?_
                                      refine K.GC.region ?_
                                      refine K.GL.det (K.e_fieldAddr fo33_1 rfl) rfl ?_
                                      first | refine K.GL.det (K.e_load Try.isAgg3 rfl rfl) rfl ?_ | refine K.GL.det (K.e_load0 Try.isAgg3 rfl (by assumption)) rfl ?_
                                      first | refine K.GL.det ((K.e_lt rfl rfl).yes (by first | omega | assumption | decide +kernel)) rfl ?_ | refine K.GL.det ((K.e_lt rfl rfl).no (by first | omega | assumption | decide +kernel)) rfl ?_ | refine K.GL.det (K.e_lt rfl rfl) rfl ?_
                                      refine K.GL.det (K.e_move rfl) rfl ?_
                                      first | refine K.GL.splitB 74 rfl (fun h12 => ?_) (fun h12 => ?_) | skip
                                      all_goals first | exact absurd h12 (by decide) | replace h12 := of_decide_eq_true h12 | replace h12 := of_decide_eq_false h12 | skip
                                      all_goals
                                        first | (refine K.GL.want 74 rfl rfl rfl ?_; first | refine K.GL.det (K.e_fieldAddr fo33_1 rfl) rfl ?_) | refine K.GL.skip 74 rfl rfl rfl rfl ?_ | refine K.GL.skipU 74 rfl rfl rfl rfl ?_
                                        first | (refine K.GL.want 74 rfl rfl rfl ?_; first | refine K.GL.det (K.e_load Try.isAgg3 rfl rfl) rfl ?_ | refine K.GL.det (K.e_load0 Try.isAgg3 rfl (by assumption)) rfl ?_) | refine K.GL.skip 74 rfl rfl rfl rfl ?_ | refine K.GL.skipU 74 rfl rfl rfl rfl ?_
                                        first | (refine K.GL.want 74 rfl rfl rfl ?_; first | refine K.GL.det ((K.e_gt rfl rfl).yes (by first | omega | assumption | decide +kernel)) rfl ?_ | refine K.GL.det ((K.e_gt rfl rfl).no (by first | omega | assumption | decide +kernel)) rfl ?_ | refine K.GL.det (K.e_gt rfl rfl) rfl ?_) | refine K.GL.skip 74 rfl rfl rfl rfl ?_ | refine K.GL.skipU 74 rfl rfl rfl rfl ?_
                                        first | refine K.GL.det (K.e_pick_t rfl rfl) rfl ?_ | refine K.GL.det (K.e_pick_f rfl rfl) rfl ?_
                                        refine K.GL.nil ?_
                                        refine K.GQ.go ?_
                                        refine K.GC.condB rfl (fun h13 => ?_) (fun h13 => ?_)
                                        · first
                                          | exact absurd h13 (by decide)
                                          | try replace h13 := of_decide_eq_true h13
                                            refine K.GC.seq ?_
                                            refine K.GC.region ?_
                                            refine K.GL.det (K.e_assign rfl) rfl ?_
                                            refine K.GL.nil ?_
                                            refine K.GQ.go ?_
                                            refine K.GC.ret ?_
                                            refine K.GQ.then_ret ?_
                                            refine K.GQ.block_ret ?_
                                            refine K.GQ.block_ret ?_
                                            refine K.GQ.then_ret ?_
                                            refine K.GQ.then_ret ?_
                                            refine K.GQ.block_ret ?_
                                            refine K.GQ.then_ret ?_
                                            refine K.GQ.ret1 Try.results4 rfl (fun w hT => ?_)
                                            exact ⟨rfl, hT.nil⟩
                                        · first
                                          | exact absurd h13 (by decide)
                                          | try replace h13 := of_decide_eq_false h13
                                            refine K.GC.skip ?_
                                            refine K.GQ.go ?_
                                            refine K.GC.region ?_
                                            refine K.GL.det (K.e_fieldAddr fo33_1 rfl) rfl ?_
                                            first | refine K.GL.det (K.e_load Try.isAgg3 rfl rfl) rfl ?_ | refine K.GL.det (K.e_load0 Try.isAgg3 rfl (by assumption)) rfl ?_
                                            refine K.GL.det (K.e_fieldAddr fo33_2 rfl) rfl ?_
                                            first | refine K.GL.det (K.e_load Try.isAgg5 rfl rfl) rfl ?_ | refine K.GL.det (K.e_load0 Try.isAgg5 rfl (by assumption)) rfl ?_
                                            refine K.GL.det (K.e_indexAddrA arr47 rfl rfl (by omega) (by omega)) rfl ?_
                                            refine K.GL.storeP (cs' := bl fun x => if x = jn then q.c else fl x) rfl rfl rfl Try.sizeOf5 rfl rfl (bl_set hj8 (by omega)) ?_
                                            refine K.GL.nil ?_
                                            refine K.GQ.block_normal ?_
                                            refine K.GQ.block_normal ?_
                                            refine K.GQ.go ?_
                                            refine K.GC.region ?_
                                            refine K.GL.det (K.e_move rfl) rfl ?_
                                            first | refine K.GL.det (K.e_add rfl rfl ⟨by omega, by omega⟩) rfl ?_ | refine K.GL.det (K.e_addw rfl rfl) rfl ?_
                                            refine K.GL.det (K.e_assign rfl) rfl ?_
                                            refine K.GL.nil ?_
                                            exact K.GQ.round (x + 1, g1, _, _) ⟨by simp only; omega, hkg1, hkp1⟩ (by simp only; omega) (by (repeat refine ⟨rfl, ?_⟩); exact trivial) (by first | exact (Sub.take (i := 0) rfl (Sub.take (i := 1) rfl (Sub.take (i := 1) rfl (Sub.nil _)))) | exact (Sub.take (i := 0) rfl (Sub.take (i := 2) rfl (Sub.take (i := 2) rfl (Sub.nil _)))) | exact (Sub.take (i := 1) rfl (Sub.take (i := 1) rfl (Sub.take (i := 1) rfl (Sub.nil _)))))
                                  · first
                                    | exact absurd h11 (by decide)
                                    | try replace h11 := of_decide_eq_false h11
                                      refine K.GC.skip ?_
                                      refine K.GQ.block_normal ?_
                                      refine K.GQ.block_normal ?_
                                      refine K.GQ.go ?_
                                      refine K.GC.region ?_
                                      refine K.GL.det (K.e_move rfl) rfl ?_
                                      first | refine K.GL.det (K.e_add rfl rfl ⟨by omega, by omega⟩) rfl ?_ | refine K.GL.det (K.e_addw rfl rfl) rfl ?_
                                      refine K.GL.det (K.e_assign rfl) rfl ?_
                                      refine K.GL.nil ?_
                                      exact K.GQ.round (x + 1, g1, _, _) ⟨by simp only; omega, hkg1, hkp1⟩ (by simp only; omega) (by (repeat refine ⟨rfl, ?_⟩); exact trivial) (by first | exact (Sub.take (i := 0) rfl (Sub.take (i := 1) rfl (Sub.take (i := 1) rfl (Sub.nil _)))) | exact (Sub.take (i := 0) rfl (Sub.take (i := 2) rfl (Sub.take (i := 2) rfl (Sub.nil _)))) | exact (Sub.take (i := 1) rfl (Sub.take (i := 1) rfl (Sub.take (i := 1) rfl (Sub.nil _)))))
                            · first
                              | exact absurd h10 (by decide)
                              | try replace h10 := of_decide_eq_false h10
                                refine K.GC.skip ?_
                                refine K.GQ.block_normal ?_
                                refine K.GQ.block_normal ?_
                                refine K.GQ.go ?_
                                refine K.GC.region ?_
                                refine K.GL.det (K.e_move rfl) rfl ?_
                                first | refine K.GL.det (K.e_add rfl rfl ⟨by omega, by omega⟩) rfl ?_ | refine K.GL.det (K.e_addw rfl rfl) rfl ?_
                                refine K.GL.det (K.e_assign rfl) rfl ?_
                                refine K.GL.nil ?_
                                exact K.GQ.round (x + 1, g1, _, _) ⟨by simp only; omega, hkg1, hkp1⟩ (by simp only; omega) (by (repeat refine ⟨rfl, ?_⟩); exact trivial) (by first | exact (Sub.take (i := 0) rfl (Sub.take (i := 1) rfl (Sub.take (i := 1) rfl (Sub.nil _)))) | exact (Sub.take (i := 0) rfl (Sub.take (i := 2) rfl (Sub.take (i := 2) rfl (Sub.nil _)))) | exact (Sub.take (i := 1) rfl (Sub.take (i := 1) rfl (Sub.take (i := 1) rfl (Sub.nil _)))))
                        · first
                          | exact absurd h9 (by decide)
                          | try replace h9 := of_decide_eq_false h9
                            refine K.GC.seq ?_
                            refine K.GC.region ?_
                            first | refine K.GL.det ((K.e_eq rfl rfl).yes (by first | omega | assumption | decide +kernel)) rfl ?_ | refine K.GL.det ((K.e_eq rfl rfl).no (by first | omega | assumption | decide +kernel)) rfl ?_ | refine K.GL.det (K.e_eq rfl rfl) rfl ?_
                            refine K.GL.det (K.e_assign rfl) rfl ?_
                            refine K.GL.nil ?_
                            refine K.GQ.go ?_
                            refine K.GC.condB rfl (fun h14 => ?_) (fun h14 => ?_)
                            · first
                              | exact absurd h14 (by decide)
                              | try replace h14 := of_decide_eq_true h14
                                refine K.GC.skip ?_
                                refine K.GQ.go ?_
                                refine K.GC.condB rfl (fun h15 => ?_) (fun h15 => ?_)
                                · first
                                  | exact absurd h15 (by decide)
                                  | try replace h15 := of_decide_eq_true h15
                                    refine K.GC.seq ?_
                                    refine K.GC.drawn 6 [[], [], [1], [], [3], [3, 4], [0, 1, 2, 3, 4, 5], [0, 1, 2, 3, 4, 5, 6]] [[], [], [1], [], [3], [4]] [0, 1, 4, 5, 6, 7, 8, 9, 10, 11, 12, 13, 14, 15, 16, 35, 36, 37, 38, 39, 40, 41, 42, 43, 44, 45, 46, 47, 48, 49, 50, 51, 52, 53, 54, 55, 56, 57, 59, 60, 61, 62, 69, 70, 71, 72, 73, 74, 75, 76, 77, 78, 79, 80, 81, 82, 83, 84, 85, 86, 87, 89, 90, 91, 92, 93, 94, 95, 96, 97, 98, 99, 100, 101, 102, 103, 104, 105, 106, 107, 108, 109, 110, 111, 112, 113, 114, 115, 116, 117, 118, 119, 120, 121, 122, 123, 124, 125, 126, 127, 128, 129, 130, 131, 132, 133, 134, 135, 136, 137, 138, 139, 140, 141, 142, 143, 144, 145, 146, 147, 148, 149, 150, 151, 152, 153, 154, 155, 156, 157, 158, 159, 160, 161, 162, 163] (by kernel_rfl) (by kernel_rfl) rfl ?_
                                    refine K.DW.det rfl (fun vs => K.e_move rfl) ?_
                                    refine K.DW.det rfl (fun vs => K.e_fieldAddr fo33_1 rfl) ?_
                                    first | refine K.DW.det rfl (fun vs => K.e_load Try.isAgg3 rfl rfl) ?_ | refine K.DW.det rfl (fun vs => K.e_load0 Try.isAgg3 rfl (by assumption)) ?_
                                    refine K.DW.det rfl (fun vs => K.e_fieldAddr fo33_2 rfl) ?_
                                    first | refine K.DW.det rfl (fun vs => K.e_load Try.isAgg5 rfl rfl) ?_ | refine K.DW.det rfl (fun vs => K.e_load0 Try.isAgg5 rfl (by assumption)) ?_
                                    refine K.DW.evO (fun vs hf => K.e_call (Pv := fun u => ∃ b, u = .slice (some ⟨b, 0, none⟩) 64 64) (R := atPtr fun b => cl b 5 (sv (secOf (q.c)))) Try.call23 rfl (fun w hT => (full_con (q.c)).mono fun e w' ⟨b, h1, h2⟩ => ⟨_, h1, ⟨b, rfl⟩, h2⟩)) ?_
                                    refine K.DW.fin (fun vs hf => ?_)
                                    refine K.GL.keep [0, 1, 4, 5, 6, 7, 8, 9, 10, 11, 12, 13, 14, 15, 16, 35, 36, 37, 38, 39, 40, 41, 42, 43, 44, 45, 46, 47, 48, 49, 50, 51, 52, 53, 54, 55, 56, 57, 59, 60, 61, 62, 63, 64, 65, 66, 67, 68, 69, 70, 71, 72, 73, 74, 75, 76, 77, 78, 79, 80, 81, 82, 83, 84, 85, 86, 87, 89, 90, 91, 92, 93, 94, 95, 96, 97, 98, 99, 100, 101, 102, 103, 104, 105, 106, 107, 108, 109, 110, 111, 112, 113, 114, 115, 116, 117, 118, 119, 120, 121, 122, 123, 124, 125, 126, 127, 128, 129, 130, 131, 132, 133, 134, 135, 136, 137, 138, 139, 140, 141, 142, 143, 144, 145, 146, 147, 148, 149, 150, 151, 152, 153, 154, 155, 156, 157, 158, 159, 160, 161, 162, 163] rfl ?_
                                    obtain ⟨⟨b68, e68⟩, _⟩ := hf
                                    refine K.GL.own1 (F := [cl b10 33 (encO q), DevR d g1, cl b7 47 (bl fk), cl b8 47 (bl fl)]) e68 ?_
                                    refine gl_write (i := q.at_) (bs := (secOf q.c).1) (a := some ⟨b68, 0, none⟩) (n := 64) (c := 64) Try.call13 (by rw [← e68]; rfl) hkg1 (fun w hT => own_slice hT (by simp)) rfl (fun g1 hkg1 hvg1 => ?_)
                                    rcases hkp1.write q.at_ q.c with ⟨he, jn, hj, hj8, hkp1⟩ | ⟨he, hkp1⟩ <;> rw [← hvg1] at hkp1
                                    all_goals
                                      first | refine K.GL.det ((K.e_eq rfl rfl).yes (by first | omega | assumption | decide +kernel)) rfl ?_ | refine K.GL.det ((K.e_eq rfl rfl).no (by first | omega | assumption | decide +kernel)) rfl ?_ | refine K.GL.det (K.e_eq rfl rfl) rfl ?_
                                      refine K.GL.nil ?_
                                      refine K.GQ.go ?_
                                      refine K.GC.condB rfl (fun h16 => ?_) (fun h16 => ?_)
                                      · first
                                        | exact absurd h16 (by decide)
                                        | try replace h16 := of_decide_eq_true h16
                                          refine K.GC.seq ?_
                                          refine K.GC.seq ?_
                                          refine K.GC.region ?_
                                          refine K.GL.det (K.e_fieldAddr fo33_1 rfl) rfl ?_
                                          first | refine K.GL.det (K.e_load Try.isAgg3 rfl rfl) rfl ?_ | refine K.GL.det (K.e_load0 Try.isAgg3 rfl (by assumption)) rfl ?_
                                          first | refine K.GL.det ((K.e_lt rfl rfl).yes (by first | omega | assumption | decide +kernel)) rfl ?_ | refine K.GL.det ((K.e_lt rfl rfl).no (by first | omega | assumption | decide +kernel)) rfl ?_ | refine K.GL.det (K.e_lt rfl rfl) rfl ?_
                                          refine K.GL.det (K.e_move rfl) rfl ?_
                                          first | refine K.GL.splitB 74 rfl (fun h17 => ?_) (fun h17 => ?_) | skip
                                          all_goals first | exact absurd h17 (by decide) | replace h17 := of_decide_eq_true h17 | replace h17 := of_decide_eq_false h17 | skip
                                          all_goals
                                            first | (refine K.GL.want 74 rfl rfl rfl ?_; first | refine K.GL.det (K.e_fieldAddr fo33_1 rfl) rfl ?_) | refine K.GL.skip 74 rfl rfl rfl rfl ?_ | refine K.GL.skipU 74 rfl rfl rfl rfl ?_
                                            first | (refine K.GL.want 74 rfl rfl rfl ?_; first | refine K.GL.det (K.e_load Try.isAgg3 rfl rfl) rfl ?_ | refine K.GL.det (K.e_load0 Try.isAgg3 rfl (by assumption)) rfl ?_) | refine K.GL.skip 74 rfl rfl rfl rfl ?_ | refine K.GL.skipU 74 rfl rfl rfl rfl ?_
                                            first | (refine K.GL.want 74 rfl rfl rfl ?_; first | refine K.GL.det ((K.e_gt rfl rfl).yes (by first | omega | assumption | decide +kernel)) rfl ?_ | refine K.GL.det ((K.e_gt rfl rfl).no (by first | omega | assumption | decide +kernel)) rfl ?_ | refine K.GL.det (K.e_gt rfl rfl) rfl ?_) | refine K.GL.skip 74 rfl rfl rfl rfl ?_ | refine K.GL.skipU 74 rfl rfl rfl rfl ?_
                                            first | refine K.GL.det (K.e_pick_t rfl rfl) rfl ?_ | refine K.GL.det (K.e_pick_f rfl rfl) rfl ?_
                                            refine K.GL.nil ?_
                                            refine K.GQ.go ?_
                                            refine K.GC.condB rfl (fun h18 => ?_) (fun h18 => ?_)
                                            · first
                                              | exact absurd h18 (by decide)
                                              | try replace h18 := of_decide_eq_true h18
                                                refine K.GC.seq ?_
                                                refine K.GC.region ?_
                                                refine K.GL.det (K.e_assign rfl) rfl ?_
                                                refine K.GL.nil ?_
                                                refine K.GQ.go ?_
                                                refine K.GC.ret ?_
                                                refine K.GQ.then_ret ?_
                                                refine K.GQ.block_ret ?_
                                                refine K.GQ.block_ret ?_
                                                refine K.GQ.then_ret ?_
                                                refine K.GQ.then_ret ?_
                                                refine K.GQ.block_ret ?_
                                                refine K.GQ.then_ret ?_
                                                refine K.GQ.ret1 Try.results4 rfl (fun w hT => ?_)
                                                exact ⟨rfl, hT.nil⟩
                                            · first
                                              | exact absurd h18 (by decide)
                                              | try replace h18 := of_decide_eq_false h18
                                                refine K.GC.skip ?_
                                                refine K.GQ.go ?_
                                                refine K.GC.region ?_
                                                refine K.GL.det (K.e_fieldAddr fo33_1 rfl) rfl ?_
                                                first | refine K.GL.det (K.e_load Try.isAgg3 rfl rfl) rfl ?_ | refine K.GL.det (K.e_load0 Try.isAgg3 rfl (by assumption)) rfl ?_
                                                refine K.GL.det (K.e_fieldAddr fo33_2 rfl) rfl ?_
                                                first | refine K.GL.det (K.e_load Try.isAgg5 rfl rfl) rfl ?_ | refine K.GL.det (K.e_load0 Try.isAgg5 rfl (by assumption)) rfl ?_
                                                refine K.GL.det (K.e_indexAddrA arr47 rfl rfl (by omega) (by omega)) rfl ?_
                                                refine K.GL.storeP (cs' := bl fun x => if x = jn then q.c else fl x) rfl rfl rfl Try.sizeOf5 rfl rfl (bl_set hj8 (by omega)) ?_
                                                refine K.GL.nil ?_
                                                refine K.GQ.block_normal ?_
                                                refine K.GQ.block_normal ?_
                                                refine K.GQ.go ?_
                                                refine K.GC.region ?_
                                                refine K.GL.det (K.e_move rfl) rfl ?_
                                                first | refine K.GL.det (K.e_add rfl rfl ⟨by omega, by omega⟩) rfl ?_ | refine K.GL.det (K.e_addw rfl rfl) rfl ?_
                                                refine K.GL.det (K.e_assign rfl) rfl ?_
                                                refine K.GL.nil ?_
                                                exact K.GQ.round (x + 1, g1, _, _) ⟨by simp only; omega, hkg1, hkp1⟩ (by simp only; omega) (by (repeat refine ⟨rfl, ?_⟩); exact trivial) (by first | exact (Sub.take (i := 0) rfl (Sub.take (i := 1) rfl (Sub.take (i := 1) rfl (Sub.nil _)))) | exact (Sub.take (i := 0) rfl (Sub.take (i := 2) rfl (Sub.take (i := 2) rfl (Sub.nil _)))) | exact (Sub.take (i := 1) rfl (Sub.take (i := 1) rfl (Sub.take (i := 1) rfl (Sub.nil _)))))
                                      · first
                                        | exact absurd h16 (by decide)
                                        | try replace h16 := of_decide_eq_false h16
                                          refine K.GC.skip ?_
                                          refine K.GQ.block_normal ?_
                                          refine K.GQ.block_normal ?_
                                          refine K.GQ.go ?_
                                          refine K.GC.region ?_
                                          refine K.GL.det (K.e_move rfl) rfl ?_
                                          first | refine K.GL.det (K.e_add rfl rfl ⟨by omega, by omega⟩) rfl ?_ | refine K.GL.det (K.e_addw rfl rfl) rfl ?_
                                          refine K.GL.det (K.e_assign rfl) rfl ?_
                                          refine K.GL.nil ?_
                                          exact K.GQ.round (x + 1, g1, _, _) ⟨by simp only; omega, hkg1, hkp1⟩ (by simp only; omega) (by (repeat refine ⟨rfl, ?_⟩); exact trivial) (by first | exact (Sub.take (i := 0) rfl (Sub.take (i := 1) rfl (Sub.take (i := 1) rfl (Sub.nil _)))) | exact (Sub.take (i := 0) rfl (Sub.take (i := 2) rfl (Sub.take (i := 2) rfl (Sub.nil _)))) | exact (Sub.take (i := 1) rfl (Sub.take (i := 1) rfl (Sub.take (i := 1) rfl (Sub.nil _)))))
                                · first
                                  | exact absurd h15 (by decide)
                                  | try replace h15 := of_decide_eq_false h15
                                    refine K.GC.skip ?_
                                    refine K.GQ.block_normal ?_
                                    refine K.GQ.block_normal ?_
                                    refine K.GQ.go ?_
                                    refine K.GC.region ?_
                                    refine K.GL.det (K.e_move rfl) rfl ?_
                                    first | refine K.GL.det (K.e_add rfl rfl ⟨by omega, by omega⟩) rfl ?_ | refine K.GL.det (K.e_addw rfl rfl) rfl ?_
                                    refine K.GL.det (K.e_assign rfl) rfl ?_
                                    refine K.GL.nil ?_
                                    exact K.GQ.round (x + 1, g1, _, _) ⟨by simp only; omega, hkg1, hkp1⟩ (by simp only; omega) (by (repeat refine ⟨rfl, ?_⟩); exact trivial) (by first | exact (Sub.take (i := 0) rfl (Sub.take (i := 1) rfl (Sub.take (i := 1) rfl (Sub.nil _)))) | exact (Sub.take (i := 0) rfl (Sub.take (i := 2) rfl (Sub.take (i := 2) rfl (Sub.nil _)))) | exact (Sub.take (i := 1) rfl (Sub.take (i := 1) rfl (Sub.take (i := 1) rfl (Sub.nil _)))))
                            · first
                              | exact absurd h14 (by decide)
                              | try replace h14 := of_decide_eq_false h14
                                refine K.GC.region ?_
                                first | refine K.GL.det ((K.e_eq rfl rfl).yes (by first | omega | assumption | decide +kernel)) rfl ?_ | refine K.GL.det ((K.e_eq rfl rfl).no (by first | omega | assumption | decide +kernel)) rfl ?_ | refine K.GL.det (K.e_eq rfl rfl) rfl ?_
                                refine K.GL.det (K.e_assign rfl) rfl ?_
                                refine K.GL.nil ?_
                                refine K.GQ.go ?_
                                refine K.GC.condB rfl (fun h19 => ?_) (fun h19 => ?_)
                                · first
                                  | exact absurd h19 (by decide)
                                  | try replace h19 := of_decide_eq_true h19
                                    refine K.GC.seq ?_
                                    refine K.GC.drawn 6 [[], [], [1], [], [3], [3, 4], [0, 1, 2, 3, 4, 5], [0, 1, 2, 3, 4, 5, 6]] [[], [], [1], [], [3], [4]] [0, 1, 4, 5, 6, 7, 8, 9, 10, 11, 12, 13, 14, 15, 16, 35, 36, 37, 38, 39, 40, 41, 42, 43, 44, 45, 46, 47, 48, 49, 50, 51, 52, 53, 54, 55, 56, 57, 59, 60, 61, 62, 69, 70, 71, 72, 73, 74, 75, 76, 77, 78, 79, 80, 81, 82, 83, 84, 85, 86, 87, 89, 90, 91, 92, 93, 94, 95, 96, 97, 98, 99, 100, 101, 102, 103, 104, 105, 106, 107, 108, 109, 110, 111, 112, 113, 114, 115, 116, 117, 118, 119, 120, 121, 122, 123, 124, 125, 126, 127, 128, 129, 130, 131, 132, 133, 134, 135, 136, 137, 138, 139, 140, 141, 142, 143, 144, 145, 146, 147, 148, 149, 150, 151, 152, 153, 154, 155, 156, 157, 158, 159, 160, 161, 162, 163] (by kernel_rfl) (by kernel_rfl) rfl ?_
                                    refine K.DW.det rfl (fun vs => K.e_move rfl) ?_
                                    refine K.DW.det rfl (fun vs => K.e_fieldAddr fo33_1 rfl) ?_
                                    first | refine K.DW.det rfl (fun vs => K.e_load Try.isAgg3 rfl rfl) ?_ | refine K.DW.det rfl (fun vs => K.e_load0 Try.isAgg3 rfl (by assumption)) ?_
                                    refine K.DW.det rfl (fun vs => K.e_fieldAddr fo33_2 rfl) ?_
                                    first | refine K.DW.det rfl (fun vs => K.e_load Try.isAgg5 rfl rfl) ?_ | refine K.DW.det rfl (fun vs => K.e_load0 Try.isAgg5 rfl (by assumption)) ?_
                                    refine K.DW.evO (fun vs hf => K.e_call (Pv := fun u => ∃ b, u = .slice (some ⟨b, 0, none⟩) 64 64) (R := atPtr fun b => cl b 5 (sv (secOf (q.c)))) Try.call23 rfl (fun w hT => (full_con (q.c)).mono fun e w' ⟨b, h1, h2⟩ => ⟨_, h1, ⟨b, rfl⟩, h2⟩)) ?_
                                    refine K.DW.fin (fun vs hf => ?_)
                                    refine K.GL.keep [0, 1, 4, 5, 6, 7, 8, 9, 10, 11, 12, 13, 14, 15, 16, 35, 36, 37, 38, 39, 40, 41, 42, 43, 44, 45, 46, 47, 48, 49, 50, 51, 52, 53, 54, 55, 56, 57, 59, 60, 61, 62, 63, 64, 65, 66, 67, 68, 69, 70, 71, 72, 73, 74, 75, 76, 77, 78, 79, 80, 81, 82, 83, 84, 85, 86, 87, 89, 90, 91, 92, 93, 94, 95, 96, 97, 98, 99, 100, 101, 102, 103, 104, 105, 106, 107, 108, 109, 110, 111, 112, 113, 114, 115, 116, 117, 118, 119, 120, 121, 122, 123, 124, 125, 126, 127, 128, 129, 130, 131, 132, 133, 134, 135, 136, 137, 138, 139, 140, 141, 142, 143, 144, 145, 146, 147, 148, 149, 150, 151, 152, 153, 154, 155, 156, 157, 158, 159, 160, 161, 162, 163] rfl ?_
                                    obtain ⟨⟨b68, e68⟩, _⟩ := hf
                                    refine K.GL.own1 (F := [cl b10 33 (encO q), DevR d g1, cl b7 47 (bl fk), cl b8 47 (bl fl)]) e68 ?_
                                    refine gl_write (i := q.at_) (bs := (secOf q.c).1) (a := some ⟨b68, 0, none⟩) (n := 64) (c := 64) Try.call13 (by rw [← e68]; rfl) hkg1 (fun w hT => own_slice hT (by simp)) rfl (fun g1 hkg1 hvg1 => ?_)
                                    rcases hkp1.write q.at_ q.c with ⟨he, jn, hj, hj8, hkp1⟩ | ⟨he, hkp1⟩ <;> rw [← hvg1] at hkp1
                                    all_goals
                                      first | refine K.GL.det ((K.e_eq rfl rfl).yes (by first | omega | assumption | decide +kernel)) rfl ?_ | refine K.GL.det ((K.e_eq rfl rfl).no (by first | omega | assumption | decide +kernel)) rfl ?_ | refine K.GL.det (K.e_eq rfl rfl) rfl ?_
                                      refine K.GL.nil ?_
                                      refine K.GQ.go ?_
                                      refine K.GC.condB rfl (fun h20 => ?_) (fun h20 => ?_)
                                      · first
                                        | exact absurd h20 (by decide)
                                        | try replace h20 := of_decide_eq_true h20
                                          refine K.GC.seq ?_
                                          refine K.GC.seq ?_
                                          refine K.GC.region ?_
                                          refine K.GL.det (K.e_fieldAddr fo33_1 rfl) rfl ?_
                                          first | refine K.GL.det (K.e_load Try.isAgg3 rfl rfl) rfl ?_ | refine K.GL.det (K.e_load0 Try.isAgg3 rfl (by assumption)) rfl ?_
                                          first | refine K.GL.det ((K.e_lt rfl rfl).yes (by first | omega | assumption | decide +kernel)) rfl ?_ | refine K.GL.det ((K.e_lt rfl rfl).no (by first | omega | assumption | decide +kernel)) rfl ?_ | refine K.GL.det (K.e_lt rfl rfl) rfl ?_
                                          refine K.GL.det (K.e_move rfl) rfl ?_
                                          first | refine K.GL.splitB 74 rfl (fun h21 => ?_) (fun h21 => ?_) | skip
                                          all_goals first | exact absurd h21 (by decide) | replace h21 := of_decide_eq_true h21 | replace h21 := of_decide_eq_false h21 | skip
                                          all_goals
                                            first | (refine K.GL.want 74 rfl rfl rfl ?_; first | refine K.GL.det (K.e_fieldAddr fo33_1 rfl) rfl ?_) | refine K.GL.skip 74 rfl rfl rfl rfl ?_ | refine K.GL.skipU 74 rfl rfl rfl rfl ?_
                                            first | (refine K.GL.want 74 rfl rfl rfl ?_; first | refine K.GL.det (K.e_load Try.isAgg3 rfl rfl) rfl ?_ | refine K.GL.det (K.e_load0 Try.isAgg3 rfl (by assumption)) rfl ?_) | refine K.GL.skip 74 rfl rfl rfl rfl ?_ | refine K.GL.skipU 74 rfl rfl rfl rfl ?_
                                            first | (refine K.GL.want 74 rfl rfl rfl ?_; first | refine K.GL.det ((K.e_gt rfl rfl).yes (by first | omega | assumption | decide +kernel)) rfl ?_ | refine K.GL.det ((K.e_gt rfl rfl).no (by first | omega | assumption | decide +kernel)) rfl ?_ | refine K.GL.det (K.e_gt rfl rfl) rfl ?_) | refine K.GL.skip 74 rfl rfl rfl rfl ?_ | refine K.GL.skipU 74 rfl rfl rfl rfl ?_
                                            first | refine K.GL.det (K.e_pick_t rfl rfl) rfl ?_ | refine K.GL.det (K.e_pick_f rfl rfl) rfl ?_
                                            refine K.GL.nil ?_
                                            refine K.GQ.go ?_
                                            refine K.GC.condB rfl (fun h22 => ?_) (fun h22 => ?_)
                                            · first
                                              | exact absurd h22 (by decide)
                                              | try replace h22 := of_decide_eq_true h22
                                                refine K.GC.seq ?_
                                                refine K.GC.region ?_
                                                refine K.GL.det (K.e_assign rfl) rfl ?_
                                                refine K.GL.nil ?_
                                                refine K.GQ.go ?_
                                                refine K.GC.ret ?_
                                                refine K.GQ.then_ret ?_
                                                refine K.GQ.block_ret ?_
                                                refine K.GQ.block_ret ?_
                                                refine K.GQ.then_ret ?_
                                                refine K.GQ.then_ret ?_
                                                refine K.GQ.block_ret ?_
                                                refine K.GQ.then_ret ?_
                                                refine K.GQ.ret1 Try.results4 rfl (fun w hT => ?_)
                                                exact ⟨rfl, hT.nil⟩
                                            · first
                                              | exact absurd h22 (by decide)
                                              | try replace h22 := of_decide_eq_false h22
                                                refine K.GC.skip ?_
                                                refine K.GQ.go ?_
                                                refine K.GC.region ?_
                                                refine K.GL.det (K.e_fieldAddr fo33_1 rfl) rfl ?_
                                                first | refine K.GL.det (K.e_load Try.isAgg3 rfl rfl) rfl ?_ | refine K.GL.det (K.e_load0 Try.isAgg3 rfl (by assumption)) rfl ?_
                                                refine K.GL.det (K.e_fieldAddr fo33_2 rfl) rfl ?_
                                                first | refine K.GL.det (K.e_load Try.isAgg5 rfl rfl) rfl ?_ | refine K.GL.det (K.e_load0 Try.isAgg5 rfl (by assumption)) rfl ?_
                                                refine K.GL.det (K.e_indexAddrA arr47 rfl rfl (by omega) (by omega)) rfl ?_
                                                refine K.GL.storeP (cs' := bl fun x => if x = jn then q.c else fl x) rfl rfl rfl Try.sizeOf5 rfl rfl (bl_set hj8 (by omega)) ?_
                                                refine K.GL.nil ?_
                                                refine K.GQ.block_normal ?_
                                                refine K.GQ.block_normal ?_
                                                refine K.GQ.go ?_
                                                refine K.GC.region ?_
                                                refine K.GL.det (K.e_move rfl) rfl ?_
                                                first | refine K.GL.det (K.e_add rfl rfl ⟨by omega, by omega⟩) rfl ?_ | refine K.GL.det (K.e_addw rfl rfl) rfl ?_
                                                refine K.GL.det (K.e_assign rfl) rfl ?_
                                                refine K.GL.nil ?_
                                                exact K.GQ.round (x + 1, g1, _, _) ⟨by simp only; omega, hkg1, hkp1⟩ (by simp only; omega) (by (repeat refine ⟨rfl, ?_⟩); exact trivial) (by first | exact (Sub.take (i := 0) rfl (Sub.take (i := 1) rfl (Sub.take (i := 1) rfl (Sub.nil _)))) | exact (Sub.take (i := 0) rfl (Sub.take (i := 2) rfl (Sub.take (i := 2) rfl (Sub.nil _)))) | exact (Sub.take (i := 1) rfl (Sub.take (i := 1) rfl (Sub.take (i := 1) rfl (Sub.nil _)))))
                                      · first
                                        | exact absurd h20 (by decide)
                                        | try replace h20 := of_decide_eq_false h20
                                          refine K.GC.skip ?_
                                          refine K.GQ.block_normal ?_
                                          refine K.GQ.block_normal ?_
                                          refine K.GQ.go ?_
                                          refine K.GC.region ?_
                                          refine K.GL.det (K.e_move rfl) rfl ?_
                                          first | refine K.GL.det (K.e_add rfl rfl ⟨by omega, by omega⟩) rfl ?_ | refine K.GL.det (K.e_addw rfl rfl) rfl ?_
                                          refine K.GL.det (K.e_assign rfl) rfl ?_
                                          refine K.GL.nil ?_
                                          exact K.GQ.round (x + 1, g1, _, _) ⟨by simp only; omega, hkg1, hkp1⟩ (by simp only; omega) (by (repeat refine ⟨rfl, ?_⟩); exact trivial) (by first | exact (Sub.take (i := 0) rfl (Sub.take (i := 1) rfl (Sub.take (i := 1) rfl (Sub.nil _)))) | exact (Sub.take (i := 0) rfl (Sub.take (i := 2) rfl (Sub.take (i := 2) rfl (Sub.nil _)))) | exact (Sub.take (i := 1) rfl (Sub.take (i := 1) rfl (Sub.take (i := 1) rfl (Sub.nil _)))))
                                · first
                                  | exact absurd h19 (by decide)
                                  | try replace h19 := of_decide_eq_false h19
                                    refine K.GC.skip ?_
                                    refine K.GQ.block_normal ?_
                                    refine K.GQ.block_normal ?_
                                    refine K.GQ.go ?_
                                    refine K.GC.region ?_
                                    refine K.GL.det (K.e_move rfl) rfl ?_
                                    first | refine K.GL.det (K.e_add rfl rfl ⟨by omega, by omega⟩) rfl ?_ | refine K.GL.det (K.e_addw rfl rfl) rfl ?_
                                    refine K.GL.det (K.e_assign rfl) rfl ?_
                                    refine K.GL.nil ?_
                                    exact K.GQ.round (x + 1, g1, _, _) ⟨by simp only; omega, hkg1, hkp1⟩ (by simp only; omega) (by (repeat refine ⟨rfl, ?_⟩); exact trivial) (by first | exact (Sub.take (i := 0) rfl (Sub.take (i := 1) rfl (Sub.take (i := 1) rfl (Sub.nil _)))) | exact (Sub.take (i := 0) rfl (Sub.take (i := 2) rfl (Sub.take (i := 2) rfl (Sub.nil _)))) | exact (Sub.take (i := 1) rfl (Sub.take (i := 1) rfl (Sub.take (i := 1) rfl (Sub.nil _)))))
            · first
              | exact absurd h5 (by decide)
              | try replace h5 := of_decide_eq_false h5
                refine K.GC.exit ?_
                refine K.GQ.then_exit ?_
                refine K.GQ.then_exit ?_
                refine K.GQ.block_hit ?_
                refine K.GQ.go ?_
                refine K.GC.seq ?_
                obtain ⟨gs, hgs⟩ : ∃ y, y = g1 := ⟨_, rfl⟩
                subst hgs
                have hkgs := hkg1
                have hkps := hkp1
                refine K.GC.region ?_
                refine K.GL.det (K.e_move rfl) rfl ?_
                refine gl_loose Try.call25 rfl hkgs rfl (fun a85 c85 => ?_)
                refine K.GL.det (K.e_assign rfl) rfl ?_
                refine K.GL.nil ?_
                refine K.GQ.go ?_
                refine K.GC.seq ?_
                refine K.GC.fact (p := 0 < gs.v.list.length → a85 = some ⟨bk a85, of_ a85, none⟩) (fun w hT => (hT.sl_row (k := 1) (n := gs.v.list.length) HasW.mem (by omega) (by simp [ints])).base) (fun hb85 => ?_)
                refine K.GC.region ?_
                refine K.GL.det (K.e_move rfl) rfl ?_
                refine K.GL.det (K.e_move rfl) rfl ?_
                refine gl_boot (ks := ks) (hs := []) Try.call21 rfl hkgs (fun w hT => ⟨⟨hB.stay hT (fun r hr => by cases hr), Sl.apart hB (by omega) hT (by simp)⟩, Sl.nil w 3, fun h => absurd h (by omega)⟩) (by simp) (by omega) rfl (fun g2 hkg2 hvg2 u88 => ?_)
                have hup2 : Up 8 g2.v := by rw [hvg2]; exact DS.boot_up hkps.len _ _
                have hl2 : g2.v.list.length = 0 := by rw [hvg2, DS.boot_list]; rfl
                have hd2 : g2.down = false := hup2.down
                refine K.GL.nil ?_
                refine K.GQ.go ?_
                refine K.GC.seq ?_
                refine K.GC.region ?_
                refine K.GL.det (K.e_assign rfl) rfl ?_
                refine K.GL.nil ?_
                refine K.GQ.go ?_
                refine K.GC.seq ?_
                refine K.GC.seq ?_
                refine K.GC.region ?_
                refine K.GL.det (K.e_assign rfl) rfl ?_
                refine K.GL.nil ?_
                refine K.GQ.go ?_
                refine K.GC.block ?_
                refine K.GC.loopk (α := Nat × Nat) [1, 5, 6, 7, 8, 11, 146, 147, 148, 149, 150, 151, 152, 153, 154, 155, 156, 157, 158, 159, 160, 161, 162, 163] rfl (fun y => [(12, .int .i64 (y.2 : Int)), (13, .int .i64 (y.1 : Int))]) (fun y => [DevR d g2, row a85 c85 1 3 (ints gs.v.list), cl b7 47 (bl fk), cl b8 47 (bl fl)]) (fun y => y.1 ≤ 8 ∧ KI gs.v y.1 y.2) (fun y => (8 - y.1)) (0, 0) ⟨Nat.zero_le _, KI.zero _⟩ (by (repeat refine ⟨rfl, ?_⟩); exact trivial) (K.Sub.refl _) (fun y hI => ?_)
                obtain ⟨y, k⟩ := y
                obtain ⟨hy, hki⟩ := hI
                simp only at hy hki ⊢
                refine K.GC.seq ?_
                refine K.GC.seq ?_
                refine K.GC.region ?_
                refine K.GL.det (K.e_move rfl) rfl ?_
                first | refine K.GL.det ((K.e_lt rfl rfl).yes (by first | omega | assumption | decide +kernel)) rfl ?_ | refine K.GL.det ((K.e_lt rfl rfl).no (by first | omega | assumption | decide +kernel)) rfl ?_ | refine K.GL.det (K.e_lt rfl rfl) rfl ?_
                refine K.GL.nil ?_
                refine K.GQ.go ?_
                refine K.GC.condB rfl (fun h23 => ?_) (fun h23 => ?_)
                · first
                  | exact absurd h23 (by decide)
                  | try replace h23 := of_decide_eq_true h23
                    refine K.GC.skip ?_
                    refine K.GQ.go ?_
                    refine K.GC.seq ?_
                    refine K.GC.block ?_
                    refine K.GC.seq ?_
                    have hy8 : y < 8 := by omega
                    refine K.GC.region ?_
                    refine K.GL.det (K.e_move rfl) rfl ?_
                    refine K.GL.det (K.e_indexAddrA arr47 rfl rfl (by omega) (by omega)) rfl ?_
                    refine K.GL.det (K.e_load Try.isAgg5 rfl (bl_get hy8 (by omega))) rfl ?_
                    refine K.GL.det (K.e_assign rfl) rfl ?_
                    refine K.GL.nil ?_
                    refine K.GQ.go ?_
                    refine K.GC.seq ?_
                    refine K.GC.seq ?_
                    rcases hkps.cases hy8 hki ks with ⟨hk1, hfe, hki, cw, hcw, hA⟩ | ⟨v, hk1, hv, hne, hfe, hki, cw, hcw, hA⟩ | ⟨v, hk1, hv, hne, hki⟩
                    all_goals
                      refine K.GC.region ?_
                      refine K.GL.det (K.e_move rfl) rfl ?_
                      refine K.GL.det (K.e_move rfl) rfl ?_
                      refine K.GL.det (K.e_len Try.underlying43 rfl) rfl ?_
                      first | refine K.GL.det ((K.e_lt rfl rfl).yes (by first | omega | assumption | decide +kernel)) rfl ?_ | refine K.GL.det ((K.e_lt rfl rfl).no (by first | omega | assumption | decide +kernel)) rfl ?_ | refine K.GL.det (K.e_lt rfl rfl) rfl ?_
                      refine K.GL.det (K.e_move rfl) rfl ?_
                      first | refine K.GL.splitB 100 rfl (fun h24 => ?_) (fun h24 => ?_) | skip
                      all_goals first | exact absurd h24 (by decide) | replace h24 := of_decide_eq_true h24 | replace h24 := of_decide_eq_false h24 | skip
                      all_goals
                        first | (refine K.GL.want 100 rfl rfl rfl ?_; first | refine K.GL.det (K.e_move rfl) rfl ?_) | refine K.GL.skip 100 rfl rfl rfl rfl ?_ | refine K.GL.skipU 100 rfl rfl rfl rfl ?_
                        first | (refine K.GL.want 100 rfl rfl rfl ?_; first | refine K.GL.det (K.e_move rfl) rfl ?_) | refine K.GL.skip 100 rfl rfl rfl rfl ?_ | refine K.GL.skipU 100 rfl rfl rfl rfl ?_
                        first | (refine K.GL.want 100 rfl rfl rfl ?_; first | refine K.GL.det (K.e_indexAddrB sl43 rfl rfl hb85 (by omega) (by omega)) rfl ?_) | refine K.GL.skip 100 rfl rfl rfl rfl ?_ | refine K.GL.skipU 100 rfl rfl rfl rfl ?_
                        first | (refine K.GL.want 100 rfl rfl rfl ?_; first | refine K.GL.det (K.e_loadw (v := .int .i64 (v : Int)) Try.isAgg3 rfl (fun w hT => (hT.sl_row (k := 1) (n := gs.v.list.length) HasW.mem (by omega) (by simp [ints])).cell _ _ (get_ints hv (by omega)))) rfl ?_) | refine K.GL.skip 100 rfl rfl rfl rfl ?_ | refine K.GL.skipU 100 rfl rfl rfl rfl ?_
                        first | (refine K.GL.want 100 rfl rfl rfl ?_; first | refine K.GL.det (K.e_move rfl) rfl ?_) | refine K.GL.skip 100 rfl rfl rfl rfl ?_ | refine K.GL.skipU 100 rfl rfl rfl rfl ?_
                        first | (refine K.GL.want 100 rfl rfl rfl ?_; first | refine K.GL.det ((K.e_eq rfl rfl).yes (by first | omega | assumption | decide +kernel)) rfl ?_ | refine K.GL.det ((K.e_eq rfl rfl).no (by first | omega | assumption | decide +kernel)) rfl ?_ | refine K.GL.det (K.e_eq rfl rfl) rfl ?_) | refine K.GL.skip 100 rfl rfl rfl rfl ?_ | refine K.GL.skipU 100 rfl rfl rfl rfl ?_
                        first | refine K.GL.det (K.e_pick_t rfl rfl) rfl ?_ | refine K.GL.det (K.e_pick_f rfl rfl) rfl ?_
                        refine K.GL.nil ?_
                        refine K.GQ.go ?_
                        refine K.GC.condB rfl (fun h25 => ?_) (fun h25 => ?_)
                        · first
                          | exact absurd h25 (by decide)
                          | try replace h25 := of_decide_eq_true h25
                            refine K.GC.seq ?_
                            refine K.GC.seq ?_
                            obtain rfl : y = v := by omega
                            rcases hkps.keep hy8 hv ks with ⟨hk2, cw, hcw, hA⟩ | ⟨hk2, hkb, cw, hcw, hA⟩ | ⟨hk2, hkb, cw, hcw, hA⟩
                            all_goals
                              refine K.GC.region ?_
                              refine K.GL.det (K.e_move rfl) rfl ?_
                              refine K.GL.det (K.e_move rfl) rfl ?_
                              refine K.GL.det (K.e_len Try.underlying30 rfl) rfl ?_
                              first | refine K.GL.det ((K.e_lt rfl rfl).yes (by first | omega | assumption | decide +kernel)) rfl ?_ | refine K.GL.det ((K.e_lt rfl rfl).no (by first | omega | assumption | decide +kernel)) rfl ?_ | refine K.GL.det (K.e_lt rfl rfl) rfl ?_
                              refine K.GL.det (K.e_move rfl) rfl ?_
                              first | refine K.GL.splitB 112 rfl (fun h26 => ?_) (fun h26 => ?_) | skip
                              all_goals first | exact absurd h26 (by decide) | replace h26 := of_decide_eq_true h26 | replace h26 := of_decide_eq_false h26 | skip
                              all_goals
                                first | (refine K.GL.want 112 rfl rfl rfl ?_; first | refine K.GL.det (K.e_move rfl) rfl ?_) | refine K.GL.skip 112 rfl rfl rfl rfl ?_ | refine K.GL.skipU 112 rfl rfl rfl rfl ?_
                                first | (refine K.GL.want 112 rfl rfl rfl ?_; first | refine K.GL.det (K.e_move rfl) rfl ?_) | refine K.GL.skip 112 rfl rfl rfl rfl ?_ | refine K.GL.skipU 112 rfl rfl rfl rfl ?_
                                first | (refine K.GL.want 112 rfl rfl rfl ?_; first | refine K.GL.det (K.e_indexAddrS sl30 rfl rfl hB (by omega) (by omega)) rfl ?_) | refine K.GL.skip 112 rfl rfl rfl rfl ?_ | refine K.GL.skipU 112 rfl rfl rfl rfl ?_
                                first | (refine K.GL.want 112 rfl rfl rfl ?_; first | refine K.GL.det (K.e_load_old Try.isAgg4 rfl (hB.cell _ _ (get_boolb hkb (by omega)))) rfl ?_) | refine K.GL.skip 112 rfl rfl rfl rfl ?_ | refine K.GL.skipU 112 rfl rfl rfl rfl ?_
                                first | refine K.GL.det (K.e_pick_t rfl rfl) rfl ?_ | refine K.GL.det (K.e_pick_f rfl rfl) rfl ?_
                                refine K.GL.nil ?_
                                refine K.GQ.go ?_
                                refine K.GC.condB rfl (fun h27 => ?_) (fun h27 => ?_)
                                · first
                                  | exact absurd h27 (by decide)
                                  | try replace h27 := of_decide_eq_true h27
                                    refine K.GC.region ?_
                                    refine K.GL.det (K.e_move rfl) rfl ?_
                                    refine K.GL.det (K.e_indexAddrA arr47 rfl rfl (by omega) (by omega)) rfl ?_
                                    refine K.GL.det (K.e_load Try.isAgg5 rfl (bl_get hy8 (by omega))) rfl ?_
                                    refine K.GL.det (K.e_assign rfl) rfl ?_
                                    refine K.GL.nil ?_
                                    refine K.GQ.go ?_
                                    have hk9 : gs.v.list.length ≤ 8 := by have := DS.list_len gs.v; have := hkps.len; omega
                                    refine K.GC.region ?_
                                    refine K.GL.det (K.e_move rfl) rfl ?_
                                    first | refine K.GL.det (K.e_add rfl rfl ⟨by omega, by omega⟩) rfl ?_ | refine K.GL.det (K.e_addw rfl rfl) rfl ?_
                                    refine K.GL.det (K.e_assign rfl) rfl ?_
                                    refine K.GL.nil ?_
                                    refine K.GQ.go ?_
                                    refine K.GC.seq ?_
                                    rw [← hcw]
                                    rw [← hvg2] at hA
                                    refine K.GC.region ?_
                                    refine K.GL.det (K.e_move rfl) rfl ?_
                                    refine K.GL.det (K.e_move rfl) rfl ?_
                                    refine gl_readE (i := (y : Int)) Try.call17 rfl hkg2 (hup2.read hy8) rfl (fun a133 c133 => ?_)
                                    refine K.GL.det (K.e_move rfl) rfl ?_
                                    refine K.GL.det (K.e_extract rfl rfl) rfl ?_
                                    refine K.GL.det (K.e_extract rfl rfl) rfl ?_
                                    refine K.GL.det (K.e_assign rfl) rfl ?_
                                    refine K.GL.det (K.e_assign rfl) rfl ?_
                                    refine K.GL.nil ?_
                                    refine K.GQ.go ?_
                                    refine K.GC.seq ?_
                                    have hAw : (g2.v.A y).1 = (secOf cw).1 := by rw [hA]
                                    refine K.GC.drawn 10 [[], [0], [0, 1], [0, 1, 2], [0, 1, 2, 3], [0, 1, 2], [0, 1, 2, 5], [0, 1, 2, 5, 6], [0, 1, 2, 3, 4, 5, 6, 7], [0, 1, 2, 3, 4, 5, 6, 7, 8]] [[], [0], [1], [2], [2, 3], [2], [2, 5], [2, 6], [2, 4, 7], [2, 8]] [1, 4, 5, 6, 7, 8, 11, 12, 13, 14, 15, 16, 89, 90, 91, 92, 93, 94, 95, 96, 97, 98, 99, 100, 101, 102, 103, 104, 105, 106, 107, 108, 109, 110, 111, 112, 113, 114, 115, 116, 117, 118, 119, 120, 121, 122, 123, 124, 125, 126, 127, 128, 129, 130, 131, 132, 133, 134, 135, 146, 147, 148, 149, 150, 151, 152, 153, 154, 155, 156, 157, 158, 159, 160, 161, 162, 163] (by kernel_rfl) (by kernel_rfl) rfl ?_
                                    refine K.DW.det rfl (fun vs => K.e_move rfl) ?_
                                    first | refine K.DW.det rfl (fun vs => (K.e_ne rfl rfl).yes (by first | omega | assumption | decide +kernel)) ?_ | refine K.DW.det rfl (fun vs => (K.e_ne rfl rfl).no (by first | omega | assumption | decide +kernel)) ?_ | refine K.DW.det rfl (fun vs => K.e_ne rfl rfl) ?_
                                    refine K.DW.det rfl (fun vs => K.e_move rfl) ?_
                                    first | (refine K.DW.want (fun _ => rfl) ?_; first | refine K.DW.det rfl (fun vs => K.e_move rfl) ?_) | refine K.DW.skip (fun _ => rfl) ?_
                                    first | (refine K.DW.want (fun _ => rfl) ?_; first | refine K.DW.det rfl (fun vs => K.e_b2sw Try.underlying29 Try.underlying5 Try.underlying9 rfl (fun w hT => hT.sl_row HasW.mem (by omega) (by rw [bv_length, Nat.mul_one]))) ?_) | refine K.DW.skip (fun _ => rfl) ?_
                                    first | (refine K.DW.want (fun _ => rfl) ?_; first | refine K.DW.det rfl (fun vs => K.e_move rfl) ?_) | refine K.DW.skip (fun _ => rfl) ?_
                                    first | refine K.DW.evgO (fun _ => rfl) (fun vs hf => K.e_call (Pv := fun u => ∃ b, u = .slice (some ⟨b, 0, none⟩) 64 64) (R := atPtr fun b => cl b 5 (sv (secOf (cw)))) Try.call23 rfl (fun w hT => (full_con (cw)).mono fun e w' ⟨b, h1, h2⟩ => ⟨_, h1, ⟨b, rfl⟩, h2⟩)) ?_ | refine K.DW.skip (fun _ => rfl) ?_
                                    first | refine K.DW.detgO (fun _ => rfl) (fun vs hf => by
                                          obtain ⟨⟨b2, e2⟩, _⟩ := hf
                                          refine K.e_b2sw Try.underlying29 Try.underlying5 Try.underlying9 (a := some ⟨b2, 0, none⟩) (n := 64) (c := 64) (by rw [← e2]; rfl) (l := (secOf (cw)).1) (fun w hT => ?_)
                                          have r1 := hT.ok _ (List.mem_of_getElem? (i := 0) rfl)
                                          rw [e2] at r1
                                          exact Sl.of_block r1 (by rw [bv_length, (secOf (cw)).2])) ?_ | refine K.DW.skip (fun _ => rfl) ?_
                                    first | (refine K.DW.want (fun _ => rfl) ?_; first | refine K.DW.det rfl (fun vs => (K.e_nes Try.underlying9 rfl rfl).no (not_not_intro hAw)) ?_) | refine K.DW.skip (fun _ => rfl) ?_
                                    first | refine K.DW.det rfl (fun vs => K.e_pick_t rfl rfl) ?_ | refine K.DW.det rfl (fun vs => K.e_pick_f rfl rfl) ?_
                                    refine K.DW.fin (fun vs hf => ?_)
                                    refine K.GL.keep [1, 4, 5, 6, 7, 8, 11, 12, 13, 14, 15, 16, 89, 90, 91, 92, 93, 94, 95, 96, 97, 98, 99, 100, 101, 102, 103, 104, 105, 106, 107, 108, 109, 110, 111, 112, 113, 114, 115, 116, 117, 118, 119, 120, 121, 122, 123, 124, 125, 126, 127, 128, 129, 130, 131, 132, 133, 134, 135, 136, 137, 138, 139, 140, 141, 142, 143, 144, 145, 146, 147, 148, 149, 150, 151, 152, 153, 154, 155, 156, 157, 158, 159, 160, 161, 162, 163] rfl ?_
                                    obtain ⟨⟨b142, e142⟩, _⟩ := hf
                                    refine K.GL.own1 (F := [row a133 c133 1 66 (bv (g2.v.A y).1), DevR d g2, row a85 c85 1 3 (ints gs.v.list), cl b7 47 (bl fk), cl b8 47 (bl fl)]) e142 ?_
                                    refine K.GL.nil ?_
                                    refine K.GQ.go ?_
                                    refine K.GC.condB rfl (fun h28 => ?_) (fun h28 => ?_)
                                    · first
                                      | exact absurd h28 (by decide)
                                      | try replace h28 := of_decide_eq_true h28
                                        refine K.GC.seq ?_
                                        refine K.GC.region ?_
                                        refine K.GL.det (K.e_assign rfl) rfl ?_
                                        refine K.GL.nil ?_
                                        refine K.GQ.go ?_
                                        refine K.GC.ret ?_
                                        refine K.GQ.block_ret ?_
                                        refine K.GQ.then_ret ?_
                                        refine K.GQ.then_ret ?_
                                        refine K.GQ.block_ret ?_
                                        refine K.GQ.then_ret ?_
                                        refine K.GQ.ret1 Try.results4 rfl (fun w hT => ?_)
                                        exact ⟨rfl, hT.nil⟩
                                    · first
                                      | exact absurd h28 (by decide)
                                      | try replace h28 := of_decide_eq_false h28
                                        refine K.GC.skip ?_
                                        refine K.GQ.block_normal ?_
                                        refine K.GQ.go ?_
                                        refine K.GC.region ?_
                                        refine K.GL.det (K.e_move rfl) rfl ?_
                                        first | refine K.GL.det (K.e_add rfl rfl ⟨by omega, by omega⟩) rfl ?_ | refine K.GL.det (K.e_addw rfl rfl) rfl ?_
                                        refine K.GL.det (K.e_assign rfl) rfl ?_
                                        refine K.GL.nil ?_
                                        exact K.GQ.round (y + 1, _) ⟨by simp only; omega, hki⟩ (by simp only; omega) (by (repeat refine ⟨rfl, ?_⟩); exact trivial) (Sub.take (i := 2) rfl (Sub.take (i := 2) rfl (Sub.take (i := 2) rfl (Sub.take (i := 2) rfl (Sub.nil _)))))
                                · first
                                  | exact absurd h27 (by decide)
                                  | try replace h27 := of_decide_eq_false h27
                                    refine K.GC.skip ?_
                                    refine K.GQ.go ?_
                                    have hk9 : gs.v.list.length ≤ 8 := by have := DS.list_len gs.v; have := hkps.len; omega
                                    refine K.GC.region ?_
                                    refine K.GL.det (K.e_move rfl) rfl ?_
                                    first | refine K.GL.det (K.e_add rfl rfl ⟨by omega, by omega⟩) rfl ?_ | refine K.GL.det (K.e_addw rfl rfl) rfl ?_
                                    refine K.GL.det (K.e_assign rfl) rfl ?_
                                    refine K.GL.nil ?_
                                    refine K.GQ.go ?_
                                    refine K.GC.seq ?_
                                    rw [← hcw]
                                    rw [← hvg2] at hA
                                    refine K.GC.region ?_
                                    refine K.GL.det (K.e_move rfl) rfl ?_
                                    refine K.GL.det (K.e_move rfl) rfl ?_
                                    refine gl_readE (i := (y : Int)) Try.call17 rfl hkg2 (hup2.read hy8) rfl (fun a133 c133 => ?_)
                                    refine K.GL.det (K.e_move rfl) rfl ?_
                                    refine K.GL.det (K.e_extract rfl rfl) rfl ?_
                                    refine K.GL.det (K.e_extract rfl rfl) rfl ?_
                                    refine K.GL.det (K.e_assign rfl) rfl ?_
                                    refine K.GL.det (K.e_assign rfl) rfl ?_
                                    refine K.GL.nil ?_
                                    refine K.GQ.go ?_
                                    refine K.GC.seq ?_
                                    have hAw : (g2.v.A y).1 = (secOf cw).1 := by rw [hA]
                                    refine K.GC.drawn 10 [[], [0], [0, 1], [0, 1, 2], [0, 1, 2, 3], [0, 1, 2], [0, 1, 2, 5], [0, 1, 2, 5, 6], [0, 1, 2, 3, 4, 5, 6, 7], [0, 1, 2, 3, 4, 5, 6, 7, 8]] [[], [0], [1], [2], [2, 3], [2], [2, 5], [2, 6], [2, 4, 7], [2, 8]] [1, 4, 5, 6, 7, 8, 11, 12, 13, 14, 15, 16, 89, 90, 91, 92, 93, 94, 95, 96, 97, 98, 99, 100, 101, 102, 103, 104, 105, 106, 107, 108, 109, 110, 111, 112, 113, 114, 115, 116, 117, 118, 119, 120, 121, 122, 123, 124, 125, 126, 127, 128, 129, 130, 131, 132, 133, 134, 135, 146, 147, 148, 149, 150, 151, 152, 153, 154, 155, 156, 157, 158, 159, 160, 161, 162, 163] (by kernel_rfl) (by kernel_rfl) rfl ?_
                                    refine K.DW.det rfl (fun vs => K.e_move rfl) ?_
                                    first | refine K.DW.det rfl (fun vs => (K.e_ne rfl rfl).yes (by first | omega | assumption | decide +kernel)) ?_ | refine K.DW.det rfl (fun vs => (K.e_ne rfl rfl).no (by first | omega | assumption | decide +kernel)) ?_ | refine K.DW.det rfl (fun vs => K.e_ne rfl rfl) ?_
                                    refine K.DW.det rfl (fun vs => K.e_move rfl) ?_
                                    first | (refine K.DW.want (fun _ => rfl) ?_; first | refine K.DW.det rfl (fun vs => K.e_move rfl) ?_) | refine K.DW.skip (fun _ => rfl) ?_
                                    first | (refine K.DW.want (fun _ => rfl) ?_; first | refine K.DW.det rfl (fun vs => K.e_b2sw Try.underlying29 Try.underlying5 Try.underlying9 rfl (fun w hT => hT.sl_row HasW.mem (by omega) (by rw [bv_length, Nat.mul_one]))) ?_) | refine K.DW.skip (fun _ => rfl) ?_
                                    first | (refine K.DW.want (fun _ => rfl) ?_; first | refine K.DW.det rfl (fun vs => K.e_move rfl) ?_) | refine K.DW.skip (fun _ => rfl) ?_
                                    first | refine K.DW.evgO (fun _ => rfl) (fun vs hf => K.e_call (Pv := fun u => ∃ b, u = .slice (some ⟨b, 0, none⟩) 64 64) (R := atPtr fun b => cl b 5 (sv (secOf (cw)))) Try.call23 rfl (fun w hT => (full_con (cw)).mono fun e w' ⟨b, h1, h2⟩ => ⟨_, h1, ⟨b, rfl⟩, h2⟩)) ?_ | refine K.DW.skip (fun _ => rfl) ?_
                                    first | refine K.DW.detgO (fun _ => rfl) (fun vs hf => by
                                          obtain ⟨⟨b2, e2⟩, _⟩ := hf
                                          refine K.e_b2sw Try.underlying29 Try.underlying5 Try.underlying9 (a := some ⟨b2, 0, none⟩) (n := 64) (c := 64) (by rw [← e2]; rfl) (l := (secOf (cw)).1) (fun w hT => ?_)
                                          have r1 := hT.ok _ (List.mem_of_getElem? (i := 0) rfl)
                                          rw [e2] at r1
                                          exact Sl.of_block r1 (by rw [bv_length, (secOf (cw)).2])) ?_ | refine K.DW.skip (fun _ => rfl) ?_
                                    first | (refine K.DW.want (fun _ => rfl) ?_; first | refine K.DW.det rfl (fun vs => (K.e_nes Try.underlying9 rfl rfl).no (not_not_intro hAw)) ?_) | refine K.DW.skip (fun _ => rfl) ?_
                                    first | refine K.DW.det rfl (fun vs => K.e_pick_t rfl rfl) ?_ | refine K.DW.det rfl (fun vs => K.e_pick_f rfl rfl) ?_
                                    refine K.DW.fin (fun vs hf => ?_)
                                    refine K.GL.keep [1, 4, 5, 6, 7, 8, 11, 12, 13, 14, 15, 16, 89, 90, 91, 92, 93, 94, 95, 96, 97, 98, 99, 100, 101, 102, 103, 104, 105, 106, 107, 108, 109, 110, 111, 112, 113, 114, 115, 116, 117, 118, 119, 120, 121, 122, 123, 124, 125, 126, 127, 128, 129, 130, 131, 132, 133, 134, 135, 136, 137, 138, 139, 140, 141, 142, 143, 144, 145, 146, 147, 148, 149, 150, 151, 152, 153, 154, 155, 156, 157, 158, 159, 160, 161, 162, 163] rfl ?_
                                    obtain ⟨⟨b142, e142⟩, _⟩ := hf
                                    refine K.GL.own1 (F := [row a133 c133 1 66 (bv (g2.v.A y).1), DevR d g2, row a85 c85 1 3 (ints gs.v.list), cl b7 47 (bl fk), cl b8 47 (bl fl)]) e142 ?_
                                    refine K.GL.nil ?_
                                    refine K.GQ.go ?_
                                    refine K.GC.condB rfl (fun h29 => ?_) (fun h29 => ?_)
                                    · first
                                      | exact absurd h29 (by decide)
                                      | try replace h29 := of_decide_eq_true h29
                                        refine K.GC.seq ?_
                                        refine K.GC.region ?_
                                        refine K.GL.det (K.e_assign rfl) rfl ?_
                                        refine K.GL.nil ?_
                                        refine K.GQ.go ?_
                                        refine K.GC.ret ?_
                                        refine K.GQ.block_ret ?_
                                        refine K.GQ.then_ret ?_
                                        refine K.GQ.then_ret ?_
                                        refine K.GQ.block_ret ?_
                                        refine K.GQ.then_ret ?_
                                        refine K.GQ.ret1 Try.results4 rfl (fun w hT => ?_)
                                        exact ⟨rfl, hT.nil⟩
                                    · first
                                      | exact absurd h29 (by decide)
                                      | try replace h29 := of_decide_eq_false h29
                                        refine K.GC.skip ?_
                                        refine K.GQ.block_normal ?_
                                        refine K.GQ.go ?_
                                        refine K.GC.region ?_
                                        refine K.GL.det (K.e_move rfl) rfl ?_
                                        first | refine K.GL.det (K.e_add rfl rfl ⟨by omega, by omega⟩) rfl ?_ | refine K.GL.det (K.e_addw rfl rfl) rfl ?_
                                        refine K.GL.det (K.e_assign rfl) rfl ?_
                                        refine K.GL.nil ?_
                                        exact K.GQ.round (y + 1, _) ⟨by simp only; omega, hki⟩ (by simp only; omega) (by (repeat refine ⟨rfl, ?_⟩); exact trivial) (Sub.take (i := 2) rfl (Sub.take (i := 2) rfl (Sub.take (i := 2) rfl (Sub.take (i := 2) rfl (Sub.nil _)))))
                        · first
                          | exact absurd h25 (by decide)
                          | try replace h25 := of_decide_eq_false h25
                            refine K.GC.seq ?_
                            refine K.GC.drawn 7 [[], [0], [0, 1], [], [3], [3, 4], [0, 1, 2, 3, 4, 5]] [[], [0], [1], [], [3], [4], [2, 5]] [1, 4, 5, 6, 7, 8, 11, 12, 13, 14, 15, 16, 89, 90, 91, 92, 93, 94, 95, 96, 97, 98, 99, 100, 101, 102, 103, 104, 105, 106, 107, 108, 109, 110, 111, 112, 113, 114, 115, 116, 117, 118, 119, 120, 121, 122, 130, 131, 132, 133, 134, 135, 136, 137, 138, 139, 140, 141, 142, 143, 144, 145, 146, 147, 148, 149, 150, 151, 152, 153, 154, 155, 156, 157, 158, 159, 160, 161, 162, 163] (by kernel_rfl) (by kernel_rfl) rfl ?_
                            refine K.DW.det rfl (fun vs => K.e_move rfl) ?_
                            refine K.DW.det rfl (fun vs => K.e_indexAddrA arr47 rfl rfl (by omega) (by omega)) ?_
                            refine K.DW.det rfl (fun vs => K.e_load Try.isAgg5 rfl (bl_get hy8 (by omega))) ?_
                            refine K.DW.det rfl (fun vs => K.e_move rfl) ?_
                            refine K.DW.det rfl (fun vs => K.e_indexAddrA arr47 rfl rfl (by omega) (by omega)) ?_
                            refine K.DW.det rfl (fun vs => K.e_load Try.isAgg5 rfl (bl_get hy8 (by omega))) ?_
                            refine K.DW.det rfl (fun vs => (K.e_ne rfl rfl).no (not_not_intro (by rw [hfe]))) ?_
                            refine K.DW.fin0 rfl (fun vs => ?_)
                            refine K.GL.keep [1, 4, 5, 6, 7, 8, 11, 12, 13, 14, 15, 16, 89, 90, 91, 92, 93, 94, 95, 96, 97, 98, 99, 100, 101, 102, 103, 104, 105, 106, 107, 108, 109, 110, 111, 112, 113, 114, 115, 116, 117, 118, 119, 120, 121, 122, 123, 124, 125, 126, 127, 128, 129, 130, 131, 132, 133, 134, 135, 136, 137, 138, 139, 140, 141, 142, 143, 144, 145, 146, 147, 148, 149, 150, 151, 152, 153, 154, 155, 156, 157, 158, 159, 160, 161, 162, 163] rfl ?_
                            clear vs
                            refine K.GL.nil ?_
                            refine K.GQ.go ?_
                            refine K.GC.condB rfl (fun h30 => ?_) (fun h30 => ?_)
                            · first
                              | exact absurd h30 (by decide)
                              | try replace h30 := of_decide_eq_true h30
                                refine K.GC.seq ?_
                                refine K.GC.region ?_
                                refine K.GL.det (K.e_assign rfl) rfl ?_
                                refine K.GL.nil ?_
                                refine K.GQ.go ?_
                                refine K.GC.ret ?_
                                refine K.GQ.then_ret ?_
                                refine K.GQ.block_ret ?_
                                refine K.GQ.then_ret ?_
                                refine K.GQ.then_ret ?_
                                refine K.GQ.block_ret ?_
                                refine K.GQ.then_ret ?_
                                refine K.GQ.ret1 Try.results4 rfl (fun w hT => ?_)
                                exact ⟨rfl, hT.nil⟩
                            · first
                              | exact absurd h30 (by decide)
                              | try replace h30 := of_decide_eq_false h30
                                refine K.GC.skip ?_
                                refine K.GQ.go ?_
                                refine K.GC.seq ?_
                                rw [← hcw]
                                rw [← hvg2] at hA
                                refine K.GC.region ?_
                                refine K.GL.det (K.e_move rfl) rfl ?_
                                refine K.GL.det (K.e_move rfl) rfl ?_
                                refine gl_readE (i := (y : Int)) Try.call17 rfl hkg2 (hup2.read hy8) rfl (fun a133 c133 => ?_)
                                refine K.GL.det (K.e_move rfl) rfl ?_
                                refine K.GL.det (K.e_extract rfl rfl) rfl ?_
                                refine K.GL.det (K.e_extract rfl rfl) rfl ?_
                                refine K.GL.det (K.e_assign rfl) rfl ?_
                                refine K.GL.det (K.e_assign rfl) rfl ?_
                                refine K.GL.nil ?_
                                refine K.GQ.go ?_
                                refine K.GC.seq ?_
                                have hAw : (g2.v.A y).1 = (secOf cw).1 := by rw [hA]
                                refine K.GC.drawn 10 [[], [0], [0, 1], [0, 1, 2], [0, 1, 2, 3], [0, 1, 2], [0, 1, 2, 5], [0, 1, 2, 5, 6], [0, 1, 2, 3, 4, 5, 6, 7], [0, 1, 2, 3, 4, 5, 6, 7, 8]] [[], [0], [1], [2], [2, 3], [2], [2, 5], [2, 6], [2, 4, 7], [2, 8]] [1, 4, 5, 6, 7, 8, 11, 12, 13, 14, 15, 16, 89, 90, 91, 92, 93, 94, 95, 96, 97, 98, 99, 100, 101, 102, 103, 104, 105, 106, 107, 108, 109, 110, 111, 112, 113, 114, 115, 116, 117, 118, 119, 120, 121, 122, 123, 124, 125, 126, 127, 128, 129, 130, 131, 132, 133, 134, 135, 146, 147, 148, 149, 150, 151, 152, 153, 154, 155, 156, 157, 158, 159, 160, 161, 162, 163] (by kernel_rfl) (by kernel_rfl) rfl ?_
                                refine K.DW.det rfl (fun vs => K.e_move rfl) ?_
                                first | refine K.DW.det rfl (fun vs => (K.e_ne rfl rfl).yes (by first | omega | assumption | decide +kernel)) ?_ | refine K.DW.det rfl (fun vs => (K.e_ne rfl rfl).no (by first | omega | assumption | decide +kernel)) ?_ | refine K.DW.det rfl (fun vs => K.e_ne rfl rfl) ?_
                                refine K.DW.det rfl (fun vs => K.e_move rfl) ?_
                                first | (refine K.DW.want (fun _ => rfl) ?_; first | refine K.DW.det rfl (fun vs => K.e_move rfl) ?_) | refine K.DW.skip (fun _ => rfl) ?_
                                first | (refine K.DW.want (fun _ => rfl) ?_; first | refine K.DW.det rfl (fun vs => K.e_b2sw Try.underlying29 Try.underlying5 Try.underlying9 rfl (fun w hT => hT.sl_row HasW.mem (by omega) (by rw [bv_length, Nat.mul_one]))) ?_) | refine K.DW.skip (fun _ => rfl) ?_
                                first | (refine K.DW.want (fun _ => rfl) ?_; first | refine K.DW.det rfl (fun vs => K.e_move rfl) ?_) | refine K.DW.skip (fun _ => rfl) ?_
                                first | refine K.DW.evgO (fun _ => rfl) (fun vs hf => K.e_call (Pv := fun u => ∃ b, u = .slice (some ⟨b, 0, none⟩) 64 64) (R := atPtr fun b => cl b 5 (sv (secOf (cw)))) Try.call23 rfl (fun w hT => (full_con (cw)).mono fun e w' ⟨b, h1, h2⟩ => ⟨_, h1, ⟨b, rfl⟩, h2⟩)) ?_ | refine K.DW.skip (fun _ => rfl) ?_
                                first | refine K.DW.detgO (fun _ => rfl) (fun vs hf => by
                                      obtain ⟨⟨b2, e2⟩, _⟩ := hf
                                      refine K.e_b2sw Try.underlying29 Try.underlying5 Try.underlying9 (a := some ⟨b2, 0, none⟩) (n := 64) (c := 64) (by rw [← e2]; rfl) (l := (secOf (cw)).1) (fun w hT => ?_)
                                      have r1 := hT.ok _ (List.mem_of_getElem? (i := 0) rfl)
                                      rw [e2] at r1
                                      exact Sl.of_block r1 (by rw [bv_length, (secOf (cw)).2])) ?_ | refine K.DW.skip (fun _ => rfl) ?_
                                first | (refine K.DW.want (fun _ => rfl) ?_; first | refine K.DW.det rfl (fun vs => (K.e_nes Try.underlying9 rfl rfl).no (not_not_intro hAw)) ?_) | refine K.DW.skip (fun _ => rfl) ?_
                                first | refine K.DW.det rfl (fun vs => K.e_pick_t rfl rfl) ?_ | refine K.DW.det rfl (fun vs => K.e_pick_f rfl rfl) ?_
                                refine K.DW.fin (fun vs hf => ?_)
                                refine K.GL.keep [1, 4, 5, 6, 7, 8, 11, 12, 13, 14, 15, 16, 89, 90, 91, 92, 93, 94, 95, 96, 97, 98, 99, 100, 101, 102, 103, 104, 105, 106, 107, 108, 109, 110, 111, 112, 113, 114, 115, 116, 117, 118, 119, 120, 121, 122, 123, 124, 125, 126, 127, 128, 129, 130, 131, 132, 133, 134, 135, 136, 137, 138, 139, 140, 141, 142, 143, 144, 145, 146, 147, 148, 149, 150, 151, 152, 153, 154, 155, 156, 157, 158, 159, 160, 161, 162, 163] rfl ?_
                                obtain ⟨⟨b142, e142⟩, _⟩ := hf
                                refine K.GL.own1 (F := [row a133 c133 1 66 (bv (g2.v.A y).1), DevR d g2, row a85 c85 1 3 (ints gs.v.list), cl b7 47 (bl fk), cl b8 47 (bl fl)]) e142 ?_
                                refine K.GL.nil ?_
                                refine K.GQ.go ?_
                                refine K.GC.condB rfl (fun h31 => ?_) (fun h31 => ?_)
                                · first
                                  | exact absurd h31 (by decide)
                                  | try replace h31 := of_decide_eq_true h31
                                    refine K.GC.seq ?_
                                    refine K.GC.region ?_
                                    refine K.GL.det (K.e_assign rfl) rfl ?_
                                    refine K.GL.nil ?_
                                    refine K.GQ.go ?_
                                    refine K.GC.ret ?_
                                    refine K.GQ.block_ret ?_
                                    refine K.GQ.then_ret ?_
                                    refine K.GQ.then_ret ?_
                                    refine K.GQ.block_ret ?_
                                    refine K.GQ.then_ret ?_
                                    refine K.GQ.ret1 Try.results4 rfl (fun w hT => ?_)
                                    exact ⟨rfl, hT.nil⟩
                                · first
                                  | exact absurd h31 (by decide)
                                  | try replace h31 := of_decide_eq_false h31
                                    refine K.GC.skip ?_
                                    refine K.GQ.block_normal ?_
                                    refine K.GQ.go ?_
                                    refine K.GC.region ?_
                                    refine K.GL.det (K.e_move rfl) rfl ?_
                                    first | refine K.GL.det (K.e_add rfl rfl ⟨by omega, by omega⟩) rfl ?_ | refine K.GL.det (K.e_addw rfl rfl) rfl ?_
                                    refine K.GL.det (K.e_assign rfl) rfl ?_
                                    refine K.GL.nil ?_
                                    exact K.GQ.round (y + 1, _) ⟨by simp only; omega, hki⟩ (by simp only; omega) (by (repeat refine ⟨rfl, ?_⟩); exact trivial) (Sub.take (i := 2) rfl (Sub.take (i := 2) rfl (Sub.take (i := 2) rfl (Sub.take (i := 2) rfl (Sub.nil _)))))
                · first
                  | exact absurd h23 (by decide)
                  | try replace h23 := of_decide_eq_false h23
                    refine K.GC.exit ?_
                    refine K.GQ.then_exit ?_
                    refine K.GQ.then_exit ?_
                    refine K.GQ.block_hit ?_
                    refine K.GQ.go ?_
                    refine K.GC.seq ?_
                    obtain rfl : y = 8 := by omega
                    have hkl := hki.end_ hkps.len
                    refine K.GC.region ?_
                    refine K.GL.det (K.e_move rfl) rfl ?_
                    refine K.GL.det (K.e_move rfl) rfl ?_
                    first | refine K.GL.splitB 147 rfl (fun h32 => ?_) (fun h32 => ?_) | skip
                    all_goals first | exact absurd h32 (by decide) | replace h32 := of_decide_eq_true h32 | replace h32 := of_decide_eq_false h32 | skip
                    all_goals
                      first | (refine K.GL.want 147 rfl rfl rfl ?_; first | refine K.GL.det (K.e_move rfl) rfl ?_) | refine K.GL.skip 147 rfl rfl rfl rfl ?_ | refine K.GL.skipU 147 rfl rfl rfl rfl ?_
                      first | (refine K.GL.want 147 rfl rfl rfl ?_; first | refine K.GL.det (K.e_move rfl) rfl ?_) | refine K.GL.skip 147 rfl rfl rfl rfl ?_ | refine K.GL.skipU 147 rfl rfl rfl rfl ?_
                      first | (refine K.GL.want 147 rfl rfl rfl ?_; first | refine K.GL.det (K.e_len Try.underlying43 rfl) rfl ?_) | refine K.GL.skip 147 rfl rfl rfl rfl ?_ | refine K.GL.skipU 147 rfl rfl rfl rfl ?_
                      first | (refine K.GL.want 147 rfl rfl rfl ?_; first | refine K.GL.det ((K.e_eq rfl rfl).yes (by first | omega | assumption | decide +kernel)) rfl ?_ | refine K.GL.det ((K.e_eq rfl rfl).no (by first | omega | assumption | decide +kernel)) rfl ?_ | refine K.GL.det (K.e_eq rfl rfl) rfl ?_) | refine K.GL.skip 147 rfl rfl rfl rfl ?_ | refine K.GL.skipU 147 rfl rfl rfl rfl ?_
                      first | refine K.GL.det (K.e_pick_t rfl rfl) rfl ?_ | refine K.GL.det (K.e_pick_f rfl rfl) rfl ?_
                      refine K.GL.det (K.e_move rfl) rfl ?_
                      first | refine K.GL.splitB 153 rfl (fun h33 => ?_) (fun h33 => ?_) | skip
                      all_goals first | exact absurd h33 (by decide) | replace h33 := of_decide_eq_true h33 | replace h33 := of_decide_eq_false h33 | skip
                      all_goals
                        first | (refine K.GL.want 153 rfl rfl rfl ?_; first | refine K.GL.det (K.e_move rfl) rfl ?_) | refine K.GL.skip 153 rfl rfl rfl rfl ?_ | refine K.GL.skipU 153 rfl rfl rfl rfl ?_
                        first
                          | refine K.GL.skip 153 rfl rfl rfl rfl ?_
                          | refine K.GL.skipU 153 rfl rfl rfl rfl ?_
                          | (refine K.GL.want 153 rfl rfl rfl ?_
                             refine gl_loose Try.call25 rfl hkg2 rfl (fun a155 c155 => ?_))
                        first | (refine K.GL.want 153 rfl rfl rfl ?_; first | refine K.GL.det (K.e_len Try.underlying43 rfl) rfl ?_) | refine K.GL.skip 153 rfl rfl rfl rfl ?_ | refine K.GL.skipU 153 rfl rfl rfl rfl ?_
                        first | (refine K.GL.want 153 rfl rfl rfl ?_; first | refine K.GL.det ((K.e_eq rfl rfl).yes (by first | omega | assumption | decide +kernel)) rfl ?_ | refine K.GL.det ((K.e_eq rfl rfl).no (by first | omega | assumption | decide +kernel)) rfl ?_ | refine K.GL.det (K.e_eq rfl rfl) rfl ?_) | refine K.GL.skip 153 rfl rfl rfl rfl ?_ | refine K.GL.skipU 153 rfl rfl rfl rfl ?_
                        first | refine K.GL.det (K.e_pick_t rfl rfl) rfl ?_ | refine K.GL.det (K.e_pick_f rfl rfl) rfl ?_
                        refine K.GL.det (K.e_move rfl) rfl ?_
                        first | refine K.GL.splitB 159 rfl (fun h34 => ?_) (fun h34 => ?_) | skip
                        all_goals first | exact absurd h34 (by decide) | replace h34 := of_decide_eq_true h34 | replace h34 := of_decide_eq_false h34 | skip
                        all_goals
                          first | (refine K.GL.want 159 rfl rfl rfl ?_; first | refine K.GL.det (K.e_move rfl) rfl ?_) | refine K.GL.skip 159 rfl rfl rfl rfl ?_ | refine K.GL.skipU 159 rfl rfl rfl rfl ?_
                          first | (refine K.GL.want 159 rfl rfl rfl ?_; first | refine K.GL.det ((K.e_call1 Try.call27 rfl (fun w hT => down_con (hT.ok _ Pick.mem))).cast_bool (b := true) (by assumption)) rfl ?_ | refine K.GL.det ((K.e_call1 Try.call27 rfl (fun w hT => down_con (hT.ok _ Pick.mem))).cast_bool (b := false) (by assumption)) rfl ?_ | refine K.GL.det (K.e_call1 Try.call27 rfl (fun w hT => down_con (hT.ok _ Pick.mem))) rfl ?_) | refine K.GL.skip 159 rfl rfl rfl rfl ?_ | refine K.GL.skipU 159 rfl rfl rfl rfl ?_
                          first | (refine K.GL.want 159 rfl rfl rfl ?_; first | refine K.GL.det (K.e_notp rfl) rfl ?_ | refine K.GL.det (K.e_not rfl) rfl ?_) | refine K.GL.skip 159 rfl rfl rfl rfl ?_ | refine K.GL.skipU 159 rfl rfl rfl rfl ?_
                          first | refine K.GL.det (K.e_pick_t rfl rfl) rfl ?_ | refine K.GL.det (K.e_pick_f rfl rfl) rfl ?_
                          refine K.GL.det (K.e_assign rfl) rfl ?_
                          refine K.GL.nil ?_
                          refine K.GQ.go ?_
                          refine K.GC.ret ?_
                          refine K.GQ.ret1 Try.results4 rfl (fun w hT => ?_)
                          exact ⟨rfl, hT.nil⟩

set_option maxHeartbeats 1000000 in
set_option maxRecDepth 100000 in
theorem DevKept_lifted (os : Os) (started : os.Started) (H : Type) (enc : TypeId × Value → H) :
    ReturnsInHanded {} Try.checked os 4 .any (Rows.devKeptSpec.pre6 enc Try.prog Try.f4 Rows.devKeptRow.domain false) (Rows.devKeptSpec.post enc Try.prog Try.f4 false true false false) := by
  refine returnsInHanded_of_change_sized (C := Try.checked) own started (by kernel_rfl) Try.func4
    (ChangeSpec.witness6 (enc := enc) (C := Try.checked) false ⟨#[], #[.slice none 0 0, .slice none 0 0], []⟩ 8 (by kernel_rfl) (by kernel_rfl) (by kernel_rfl) (by kernel_rfl)) ?_
  intro W base args ds gs before hval0 hW _ hsz0 _
  have hval : ∀ (j : Nat) t v, Try.f4.params[j]? = some t → args[j]? = some v → Value.okWide Try.prog W .any base t v := hval0
  have hsz : (DataW.weightsEach Try.prog (Try.f4.params.toList ++ []) (ds ++ gs)).all (· ≤ reachBytes) = true := hsz0
  have hW' := hW
  obtain ⟨p, q, hA0, hV, hpe, hfz, hnd⟩ := hW
  have hA : DataW.TrodAll enc Try.prog W 0 (fun _ => true) true Try.f4.params.toList args.toList ds p := hA0
  obtain ⟨rfl, rfl⟩ := trodVars_none hV
  rw [Try.params4] at hA hval hsz
  obtain ⟨v0, vs0, d0, ds0, p0, q0, hargs, rfl, rfl, h0, r0⟩ := trodAll_cons hA
  obtain ⟨v1, vs1, d1, ds1, p1, q1, rfl, rfl, rfl, h1, r1⟩ := trodAll_cons r0
  obtain ⟨rfl, rfl, rfl⟩ := trodAll_nil r1
  obtain rfl : args = #[v0, v1] := by cases args; simp_all
  clear hA0 hval0 hsz0 hA hargs
  obtain ⟨ax, nx, cx, rfl⟩ := okWide_slice Try.underlying22 (hval 0 22 _ rfl rfl)
  obtain ⟨fuelx, hfx⟩ := h0
  obtain ⟨ax', nx', cx', lx, hcsx, hnx, hSx, hGx⟩ := open_ops hfx
  have hcsx' : Value.slice ax nx cx = .slice ax' nx' cx' := by simpa [Value.cells] using hcsx
  simp only [Value.slice.injEq] at hcsx'
  obtain ⟨rfl, rfl, rfl⟩ := hcsx'
  unfold maxLen at hnx
  obtain ⟨ay, ny, cy, rfl⟩ := okWide_slice Try.underlying30 (hval 1 30 _ rfl rfl)
  obtain ⟨fuely, hfy⟩ := h1
  obtain ⟨ay', ny', cy', ly, hcsy, hny, hSy⟩ := open_bools hfy
  have hcsy' : Value.slice ay ny cy = .slice ay' ny' cy' := by simpa [Value.cells] using hcsy
  simp only [Value.slice.injEq] at hcsy'
  obtain ⟨rfl, rfl, rfl⟩ := hcsy'
  unfold maxLen at hny
  have core : Calls Try.prog 4 #[.slice ax nx cx, .slice ay ny cy] W fun e W' => e = .returned (.bool true) ∧ Tr W [] W' [] := kept_any W hSx hSy hGx (by omega) (by omega)
  exact core.mono fun e W' ⟨he, hT⟩ => ⟨_, he, law_post (tb := 4) hW' rfl rfl Try.underlying4 (fun _ => rfl) laidOut (by kernel_rfl) hT.below⟩
theorem DevKept_holds : Rows.DevKeptSaid :=
  OpenClaim.holds_of_wide 4 Try.f4 rfl rfl rfl rfl rfl rfl rfl ⟨rfl, rfl, rfl, rfl, rfl⟩ rfl rfl rfl rfl rfl (by kernel_rfl) Try.func4 (by kernel_rfl)
    (of_decide_eq_true (by kernel_rfl)) (by unfold Func.isWrapper; first | (rw [if_pos (by decide +kernel)]; kernel_rfl) | (rw [if_neg (by decide +kernel)]; exact ⟨rfl, rfl⟩))
    (fun os started H enc _ => DevKept_lifted os started H enc)

end Go.Proofs.Ytgkdnecjokhkcaa
