/- Nothings put behind a row; without conditions. -/
import Derived.Test.YtcphpcjcbmennaaKn
import Derived.Lib.AppendZerosOnto
set_option linter.unusedVariables false
set_option linter.unusedSimpArgs false
set_option linter.unnecessarySimpa false
set_option linter.deprecated false
namespace Go.K
open Go
set_option linter.unusedVariables false
section
variable {P : Program} {ops : Array Oper} {Q : Exit → Act → World → Prop} {N : Nat} {U : Env} {w0 : World} {L0 L F : List Res} {ty : TypeId} {rest : List Oper} {pos : String} {after : Array Edge} {x y : Operand}
theorem run_appendZ {w : World} {T T2 E : TypeId} {z : Value} {bytes : Nat} {kn : IntKind} (hm : mkOf P T = some (E, [z], bytes)) (hT2 : P.underlying T2 = some (.int kn)) {a : Option Addr} {n c : Nat} {xs : List Value} (hrow : (row a c 1 E xs).ok w.heap) (hxl : xs.length = n)
    {m : Nat} (h1 : z.oneCell' = true) (hb : (n + m) * bytes ≤ 140737488355328) (h63 : n + m ≤ 9223372036854775807) :
    ∃ a' c' w', (Builtin.append_ #[T, T2] ty #[.slice a n c, .int .i64 (m : Int)]).run P w = .ok (.slice a' (n + m) c') w' ∧ Tr w [row a c 1 E xs] w' [row a' c' 1 E (xs ++ List.replicate m z)] := by
  obtain ⟨it, zv, hu, hi, hz, hzc, hsz, hpos, hby⟩ := mkOf_spec hm
  subst hby
  have hnc : n ≤ c := by
    cases a with
    | none => obtain ⟨h, _⟩ := hrow.1 rfl; rw [h] at hxl; simp at hxl; omega
    | some p =>
      obtain ⟨hp, junk, hblk, hjl⟩ := hrow.2 p rfl
      rw [List.length_append] at hjl; omega
  have hzl : (Builtin.zeroCells zv.cells m).toList = List.replicate m z := by
    rw [hzc]
    simp [Builtin.zeroCells]
    apply List.ext_getElem
    · simp
    · intro i h1 h2
      simp [Nat.mod_one]
  have hs1 : it.size = 1 := hsz
  have hw : IntKind.i64.wrap (m : Int) = m := by rw [IntKind.wrap_i64]; omega
  rcases Nat.eq_zero_or_pos m with hm0 | hm0
  · subst hm0
    refine ⟨a, c, w, ?_, ?_⟩
    · have hw0 : IntKind.i64.wrap 0 = 0 := by decide
      cases a <;> simp [Builtin.append_, run_underlying hu, run_underlying hT2, sizeOf, typeInfo, hi, asInt, asIntOf, hw0, hnc, storeCells, go_sem]
    · rw [List.replicate_zero, List.append_nil]
      exact Tr.start (Disj.one _) (fun r hr => by simp only [List.mem_singleton] at hr; subst hr; exact hrow)
  have hge : ∀ need old, need ≤ grownCap w need old E := fun need old => grownCap_ge w need old E
  have hmb : m * it.bytes ≤ 281474976710656 := by
    have := Nat.mul_le_mul_right it.bytes (Nat.le_add_left m n)
    omega
  cases a with
  | none =>
    obtain ⟨hxs, hc0⟩ := hrow.1 rfl
    subst hxs
    obtain rfl : n = 0 := by simp at hxl; omega
    obtain rfl : c = 0 := hc0
    have hr := Lib.run_append_nil_zeros (P := P) w T T2 ty E it zv .i64 kn hu hT2 hi hz m hm0 (by rw [hs1]; exact Nat.one_pos) (by omega) hmb
    refine ⟨_, _, _, by rw [hr, Nat.zero_add], Tr.weak ?_⟩
    refine Tr.row_fresh w w.drew (junk := (Builtin.zeroCells zv.cells (grownCap w m 0 E - m)).toList) rfl rfl rfl rfl (Nat.le_succ _) ?_ ?_
    · have := hge m 0
      simp only [List.nil_append, List.length_append, List.length_replicate, Array.length_toList, size_zeroCells, hzc, List.size_toArray, List.length_singleton, Nat.mul_one]
      omega
    · rw [List.nil_append, ← hzl]; simp
  | some p =>
    obtain ⟨hp, junk, hblk, hjl⟩ := hrow.2 p rfl
    by_cases hroom : n + m ≤ c
    · have hlen : n + m ≤ (xs ++ junk).length := by rw [hjl]; omega
      have hst := run_storeCells_at P p.block n E (List.replicate m z) 0 (xs ++ junk).toArray w hblk (by simpa using hlen) (by intro v hv; rw [List.eq_of_mem_replicate hv]; exact h1)
      have hneg : ¬ ((m : Int) < 0) := by omega
      have h48i : ¬ (281474976710656 < (m : Int) * (it.bytes : Int)) := by
        rw [← Int.natCast_mul]; omega
      have hns : ¬ (m * it.size = 0) := by rw [hs1]; omega
      have hpa : p.add (n * it.size) = ⟨p.block, n, none⟩ := by rw [hp, hs1, Nat.mul_one, add_addr, Nat.zero_add]
      have hr : (Builtin.append_ #[T, T2] ty #[.slice (some p) n c, .int .i64 (m : Int)]).run P w = .ok (.slice (some p) (n + m) c) (w.setRow p.block ((xs ++ junk).take n ++ List.replicate m z ++ (xs ++ junk).drop (n + m)).toArray) := by
        simp only [Nat.add_zero, List.length_replicate] at hst
        simp [Builtin.append_, run_underlying hu, run_underlying hT2, sizeOf, typeInfo, zeroValue, hi, hz, asInt, asIntOf, hw, hneg, hns, h48i, hroom, hpa]
        rw [hzl, hst, List.append_assoc]
        rfl
      refine ⟨_, _, _, hr, ?_⟩
      have e : (xs ++ junk).take n ++ List.replicate m z ++ (xs ++ junk).drop (n + m) = (xs ++ List.replicate m z) ++ junk.drop m := by
        rw [← hxl, List.take_left, List.drop_append, List.drop_of_length_le (by omega)]
        simp
      rw [e]
      refine Tr.row_set hp hblk ?_
      simp only [List.length_append, List.length_replicate, List.length_drop] at hlen hjl ⊢
      omega
    · have hr := Lib.run_append_grow_zeros (P := P) w T T2 ty E it zv .i64 kn hu hT2 hi hz (some p) n c xs (run_firstCells_some (P := P) w.drew it.size n p n c xs (by rw [hs1, Nat.mul_one]; exact hxl) (fun j v hj => by
          show w.cell? _ = _
          rw [hp, add_addr, Nat.zero_add, cell_of_block hblk, List.getElem?_append_left (List.getElem?_eq_some_iff.1 hj).1]; exact hj)) m hm0 (by rw [hs1]; exact Nat.one_pos) (by omega) (by omega) hmb (growslice_fits (by omega) hb)
      refine ⟨_, _, _, hr, Tr.weak ?_⟩
      refine Tr.row_fresh w w.drew (junk := (Builtin.zeroCells zv.cells (grownCap w (n + m) c E - (n + m))).toList) rfl rfl rfl rfl (Nat.le_succ _) ?_ ?_
      · have := hge (n + m) c
        simp only [List.length_append, List.length_replicate, Array.length_toList, size_zeroCells, hzc, hxl, List.size_toArray, List.length_singleton, Nat.mul_one]
        omega
      · rw [← hzl]; simp
theorem GL.appendZT {α : Type} {e : Enc α} {l : List α} {d : Tmp} {T T2 E : TypeId} {n m c : Nat} {a : Option Addr} {kn : IntKind} {z : Value} {bytes : Nat} (x0 : α) (hm : mkOf P T = some (E, [z], bytes)) (hT2 : P.underlying T2 = some (.int kn)) (he : e.f x0 = [z]) (hx : opv U x = some (.slice a n c)) [hp : PkT L a c E e l F] (hn : n = l.length) (hk : e.k = 1)
    (hy : opv U y = some (.int .i64 (m : Int))) (h1 : z.oneCell' = true) (hb : (l.length + m) * bytes ≤ 140737488355328) (h63 : l.length + m ≤ 9223372036854775807) (hd : Nat.ble (d + 1) N = true)
    (hr : ∀ a' c', GL P ops Q rest N ((d, .slice a' (l ++ List.replicate m x0).length c') :: U) w0 L0 (trow a' c' E e (l ++ List.replicate m x0) :: F)) :
    GL P ops Q (⟨some d, .call ⟨.builtin .append, #[x, y], #[T, T2]⟩, ty, pos, after, Option.none⟩ :: rest) N U w0 L0 L := by
  subst hn
  intro aa w hE hT
  refine wpList_plain rfl fun K hK => ?_
  have hrow := hT.sub hp.out
  have h2 := hrow.ok _ List.mem_cons_self
  unfold trow at h2
  rw [hk] at h2
  obtain ⟨a', c', w', h3, h4⟩ := run_appendZ (P := P) (ty := ty) hm hT2 h2 (by rw [e.fl_length, hk, Nat.mul_one]) h1 hb h63
  have h5 := exec_append (P := P) (ρ := aa.eval) (w := w) (dst := some d) (guard := Option.none) (x := x) (y := y) (T1 := T) (T2 := T2) (ty := ty) (pos := pos) (after := after)
  have hlen : (l ++ List.replicate m x0).length = l.length + m := by simp
  have hfl : e.fl (l ++ List.replicate m x0) = e.fl l ++ List.replicate m z := by
    rw [e.fl_append]
    congr 1
    clear hr h3 h4 hb h63 hlen hy
    induction m with
    | zero => rfl
    | succ m ih => rw [List.replicate_succ, List.replicate_succ, ← ih]; show e.f x0 ++ _ = _; rw [he]; rfl
  unfold Oper.wp
  rw [h5, hE.op _ _ hx, hE.op _ _ hy, h3]
  have h6 := hr a' c'
  unfold trow at h6
  rw [hlen, hfl, hk] at h6
  refine hK _ _ (h6 _ _ (hE.put (Nat.le_of_ble_eq_true hd) _) ?_)
  have h7 := hrow
  unfold trow at h7
  rw [hk] at h7
  exact h7.put (i := 0) rfl h4
theorem zeros_fl {α : Type} (e : Enc α) (x0 : α) {z : List Value} (he : e.f x0 = z) : ∀ n, zeros z n = e.fl (List.replicate n x0)
  | 0 => rfl
  | n + 1 => by rw [zeros, zeros_fl e x0 he n, List.replicate_succ]; show _ = e.f x0 ++ e.fl (List.replicate n x0); rw [he]
theorem GL.makeT {α : Type} {e : Enc α} {d : Tmp} {T E : TypeId} {kl kc : IntKind} {n bytes : Nat} {z : List Value} (x0 : α) (hm : mkOf P T = some (E, z, bytes)) (he : e.f x0 = z) (hx : opv U x = some (.int kl (n : Int))) (hy : opv U y = some (.int kc (n : Int))) (hb : (bytes : Int) * n ≤ 281474976710656) (h63 : (n : Int) ≤ 9223372036854775807) (hd : Nat.ble (d + 1) N = true)
    (hr : ∀ b, GL P ops Q rest N ((d, .slice (some ⟨b, 0, none⟩) (List.replicate n x0).length n) :: U) w0 L0 (trow (some ⟨b, 0, none⟩) n E e (List.replicate n x0) :: L)) : GL P ops Q (⟨some d, .makeSlice T x y, ty, pos, after, Option.none⟩ :: rest) N U w0 L0 L :=
  GL.make hm hx hy (Int.natCast_nonneg n) (Int.le_refl _) hb h63 hd fun b => by
    have h := hr b
    rw [List.length_replicate] at h
    rw [Int.toNat_natCast, zeros_fl e x0 he]
    have hl : (e.fl (List.replicate n x0)).length = n * e.k := by rw [e.fl_length, List.length_replicate]
    exact GL.cl_row hl h
/-- A row's elements are no more than its room. -/
theorem GC.capT {α : Type} {e : Enc α} {l : List α} {c : Nat} {E : TypeId} {code : Code} (a : Option Addr) [hp : PkT L a c E e l F] (h : l.length ≤ c → GC P code Q N U w0 L0 L) : GC P code Q N U w0 L0 L := fun aa w hE hT =>
  h (trow_cap ((hT.sub hp.out).ok _ List.mem_cons_self)) aa w hE hT
end
end Go.K
namespace Go.K.D
open Go Go.K
section
variable {P : Program} {l : List Oper} {V U : Env} {w0 : World} {L0 L L' F F2 : List Res} {N : Nat} {Q : Exit → Act → World → Prop}
/-- What is taken over is told by its address. -/
theorem GC.drawn1a {id : Nat} (a : Option Addr) {c : Nat} {T : TypeId} {α : Type} {e : Enc α} {z : List α} (n : Nat) (bef need use abl : List (List Nat)) (lv ts : List Nat) [hp : PkT L a c T e z F] (hm : P.follows .mixedOrders = true) (hB : okB l n N bef need ts = true) (hA : okA n 1 bef need use abl lv = true) (hk : K.keep U ts = some V)
    (h : DW P l V w0 L0 F (befOf need) (befOf use) (befOf abl) (fun B => ∀ vs, Facts B (befOf need) vs (List.range n) → GL P l.toArray Q (l.drop n) N (envB l B (befOf need) vs (List.range n) V) w0 L0 (resB B (befOf need) vs lv F)) [(n, .own (fun _ _ => undef) (fun _ _ => True) (fun _ _ => trow a c T e z))] 0 l n) :
    GC P (.region id l.toArray true) Q N U w0 L0 L := GC.drawn n [trow a c T e z] F bef need use abl lv ts hm hB hA hk hp.out h
theorem em_alloc {T : TypeId} {ty : TypeId} {v : Value} {cs : List Value} (hz : ∀ w, (zeroValue T).run P w = .ok v w) (hc : cellsO v = some cs) :
    EvM P U w0 L0 L [] (.alloc T) ty (fun g => .pointer (some ⟨(g 0).2, 0, none⟩)) (fun _ => True) (fun g => cl (g 0).2 T cs) := by
  intro ρ w dst pos after guard hρ hT
  have := e_alloc (P := P) (U := U) (w0 := w0) (L0 := L0) (L := L) (ty := ty) hz hc ρ w dst pos after guard hρ hT
  generalize (execOp ρ ⟨dst, _, ty, pos, after, guard⟩).run P w = r at *
  cases r with
  | ok n w' =>
    cases n <;> simp only [calmUpon] at this
    case value v => obtain ⟨⟨b, rfl⟩, h⟩ := this; exact ⟨fun _ => (none, b), rfl, trivial, h⟩
    case skip => obtain ⟨⟨b, h0⟩, h⟩ := this; rw [h0] at h; exact ⟨fun _ => (none, b), h0, trivial, h⟩
    case enter f args => exact ⟨this.1, this.2.mono fun e' w'' ⟨v, h1, ⟨b, h0⟩, h3⟩ => by subst h0; exact ⟨fun _ => (none, b), h1, trivial, h3⟩⟩
  | halt x w' => exact this
theorem GL.res0 {ops : Array Oper} {B : List (Nat × Sp)} {bf : Nat → List Nat} {vs : Nat → Gh} {lv : List Nat} {ol : List Oper} (h : resB B bf vs lv L = L) (hr : GL P ops Q ol N U w0 L0 (L)) : GL P ops Q ol N U w0 L0 (resB B bf vs lv L) := by rw [h]; exact hr
theorem GL.res1 {ops : Array Oper} {B : List (Nat × Sp)} {bf : Nat → List Nat} {vs : Nat → Gh} {lv : List Nat} {ol : List Oper} {r0 : Res} (h : resB B bf vs lv L = r0 :: L) (hr : GL P ops Q ol N U w0 L0 (r0 :: L)) : GL P ops Q ol N U w0 L0 (resB B bf vs lv L) := by rw [h]; exact hr
theorem GL.res2 {ops : Array Oper} {B : List (Nat × Sp)} {bf : Nat → List Nat} {vs : Nat → Gh} {lv : List Nat} {ol : List Oper} {r0 r1 : Res} (h : resB B bf vs lv L = r0 :: r1 :: L) (hr : GL P ops Q ol N U w0 L0 (r0 :: r1 :: L)) : GL P ops Q ol N U w0 L0 (resB B bf vs lv L) := by rw [h]; exact hr
theorem GL.res3 {ops : Array Oper} {B : List (Nat × Sp)} {bf : Nat → List Nat} {vs : Nat → Gh} {lv : List Nat} {ol : List Oper} {r0 r1 r2 : Res} (h : resB B bf vs lv L = r0 :: r1 :: r2 :: L) (hr : GL P ops Q ol N U w0 L0 (r0 :: r1 :: r2 :: L)) : GL P ops Q ol N U w0 L0 (resB B bf vs lv L) := by rw [h]; exact hr
theorem GL.res4 {ops : Array Oper} {B : List (Nat × Sp)} {bf : Nat → List Nat} {vs : Nat → Gh} {lv : List Nat} {ol : List Oper} {r0 r1 r2 r3 : Res} (h : resB B bf vs lv L = r0 :: r1 :: r2 :: r3 :: L) (hr : GL P ops Q ol N U w0 L0 (r0 :: r1 :: r2 :: r3 :: L)) : GL P ops Q ol N U w0 L0 (resB B bf vs lv L) := by rw [h]; exact hr
theorem GL.res5 {ops : Array Oper} {B : List (Nat × Sp)} {bf : Nat → List Nat} {vs : Nat → Gh} {lv : List Nat} {ol : List Oper} {r0 r1 r2 r3 r4 : Res} (h : resB B bf vs lv L = r0 :: r1 :: r2 :: r3 :: r4 :: L) (hr : GL P ops Q ol N U w0 L0 (r0 :: r1 :: r2 :: r3 :: r4 :: L)) : GL P ops Q ol N U w0 L0 (resB B bf vs lv L) := by rw [h]; exact hr
end
end Go.K.D
