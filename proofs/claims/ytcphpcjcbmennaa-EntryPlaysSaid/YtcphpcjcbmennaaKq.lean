/- Calls of function values that take over, and of methods bound to what they are of; without conditions. -/
import Derived.Test.YtcphpcjcbmennaaKp
set_option linter.unusedVariables false
set_option linter.unusedSimpArgs false
set_option linter.unnecessarySimpa false
set_option linter.deprecated false
namespace Go.K
open Go
set_option linter.unusedVariables false
section
variable {P : Program} {ops : Array Oper} {Q : Exit → Act → World → Prop} {N : Nat} {U : Env} {w0 : World} {L0 L F : List Res} {ty : TypeId} {rest : List Oper} {pos : String} {after : Array Edge}
theorem run_callB {ρ : Operand → Value} {w : World} {x : Operand} {g : FuncId} {fst cap : List Value} {xs : List Operand} {vs : List Value} {tys : Array TypeId} {dst : Option Tmp} {guard : Option (Nat × Bool)} (hf : ∀ args w, (callFunc g args).run P w = .ok (.enter g args) w) (hx : xs.map ρ = vs) (hρ : ρ x = .func (.func g) fst.toArray cap.toArray) :
    (execOp ρ ⟨dst, .call ⟨.value x, xs.toArray, tys⟩, ty, pos, after, guard⟩).run P w = .ok (.enter g (fst ++ vs ++ cap).toArray) w := by
  subst hx
  simp [execOp, go_sem, hρ, hf]
theorem GL.callB {α : Type} {d : Tmp} {x : Operand} {g : FuncId} {fst cap : List Value} {xs : List Operand} {vs : List Value} {tys : Array TypeId} {l F : List Res} {Pv : α → Value → Prop} {l' : α → List Res}
    (hf : ∀ args w, (callFunc g args).run P w = .ok (.enter g args) w) (hv : opv U x = some (.func (.func g) fst.toArray cap.toArray)) (hx : opvs U xs = some vs) (hsub : Sub (l ++ F) L)
    (h : ∀ w, Tr w0 L0 w L → Calls P g (fst ++ vs ++ cap).toArray w fun e w' => ∃ x v, e = .returned v ∧ Pv x v ∧ Tr w l w' (l' x)) (hd : Nat.ble (d + 1) N = true)
    (hr : ∀ x v, Pv x v → GL P ops Q rest N ((d, v) :: U) w0 L0 (l' x ++ F)) : GL P ops Q (⟨some d, .call ⟨.value x, xs.toArray, tys⟩, ty, pos, after, Option.none⟩ :: rest) N U w0 L0 L := by
  intro a w hE hT
  refine wpList_plain rfl fun K hK => ?_
  unfold Oper.wp
  rw [run_callB hf (opvs_spec hE.op hx) (hE.op x _ hv)]
  exact (h w hT).mono fun e w' ⟨y, v, he, hv, ht⟩ => by
    subst he
    exact hK _ _ (hr y v hv _ _ (hE.put (Nat.le_of_ble_eq_true hd) v) (hT.call hsub ht))
theorem e_makeFuncB {g : FuncId} {bs xs : List Operand} {us vs : List Value} (hb : opvs U bs = some us) (hx : opvs U xs = some vs) : Ev P U w0 L0 L (.makeFunc (.func g) bs.toArray xs.toArray) ty (Is (.func (.func g) us.toArray vs.toArray)) No :=
  .val fun ρ w dst pos after guard hρ hT => by
    have h := opvs_spec hρ hx
    have h2 := opvs_spec hρ hb
    subst h h2
    simp [execOp, Instr.makeFunc, go_sem]
/-- Any values, as they lie. -/
def encV : Enc {v : Value // v.oneCell' = true} := ⟨fun v => [v.1], 1, by decide, fun _ => rfl, fun v => by simp [oneCells, v.2]⟩
theorem GQ.ret_ctt {fn : Func} {R : Ending → World → Prop} {t T : Nat} {t2 t3 : Tmp} {v2 v3 : Value} {n b off : Nat} {E : TypeId} {cs vs : List Value} (hr : fn.results = #[.cell t T, .tmp t2, .tmp t3]) (hA : ∀ w, (isAgg T).run P w = .ok true w) (hS : ∀ w, (sizeOf T).run P w = .ok n w)
    (hv : lk U t = some (.pointer (some ⟨b, off, none⟩))) (h2 : lk U t2 = some v2) (h3 : lk U t3 = some v3) [hc : HasC L b E cs] (ht : takeO cs off n = some vs) (h : ∀ w, Tr w0 L0 w L → R (.returned (.tuple [.agg vs.toArray, v2, v3].toArray)) w) : GQ (bodyPost P fn R) .ret N U w0 L0 L := fun a w hE hT => by
  refine bodyPost_ret (v := .tuple #[.agg vs.toArray, v2, v3]) ?_ hE.defers (h w hT)
  have h1 := hE.eq t _ hv
  have e2 := hE.eq t2 v2 h2
  have e3 := hE.eq t3 v3 h3
  simp only [Act.eval] at h1 e2 e3
  obtain ⟨h2, h3⟩ := takeO_spec ht
  have hl : vs.length = n := by rw [h3]; simp; omega
  subst hl
  have := run_cells (P := P) (Tr.at (b := b) hT) h2 h3
  unfold loadCells at this
  simp only [Array.getD_eq_getD_getElem?] at h1 e2 e3
  simp [results, hr, go_sem, h1, e2, e3, hA, hS, this]
end
end Go.K
namespace Go.K.D
open Go Go.K
section
variable {P : Program} {l : List Oper} {V U : Env} {w0 : World} {L0 L F : List Res} {N : Nat} {Q : Exit → Act → World → Prop}
/-- What is taken over is told. -/
theorem GC.drawn1r {id : Nat} (r : Res) (n : Nat) (bef need use abl : List (List Nat)) (lv ts : List Nat) [hp : Pk L r F] (hm : P.follows .mixedOrders = true) (hB : okB l n N bef need ts = true) (hA : okA n 1 bef need use abl lv = true) (hk : K.keep U ts = some V)
    (h : DW P l V w0 L0 F (befOf need) (befOf use) (befOf abl) (fun B => ∀ vs, Facts B (befOf need) vs (List.range n) → GL P l.toArray Q (l.drop n) N (envB l B (befOf need) vs (List.range n) V) w0 L0 (resB B (befOf need) vs lv F)) [(n, .own (fun _ _ => undef) (fun _ _ => True) (fun _ _ => r))] 0 l n) :
    GC P (.region id l.toArray true) Q N U w0 L0 L := GC.drawn n [r] F bef need use abl lv ts hm hB hA hk hp.out h
theorem em_store {T E : TypeId} {ty : TypeId} {x y : Operand} {b off n : Nat} {v : Value} {cs vs cs' : List Value} (hx : opv U x = some (.pointer (some ⟨b, off, none⟩))) (hy : opv U y = some v) (hc : cellsO v = some vs)
    (hS : ∀ w, (sizeOf T).run P w = .ok n w) (hn : vs.length = n) (h1 : oneCells vs = true) [hh : HasC L b E cs] (hs : spliceO cs off vs = some cs') :
    EvM P U w0 L0 L [cl b E cs] (.store T x y) ty (fun _ => undef) (fun _ => True) (fun _ => cl b E cs') := by
  intro ρ w dst pos after guard hρ hT
  obtain ⟨h2, h3⟩ := spliceO_spec hs
  have hb := hT.at (b := b)
  have h4 := run_store (P := P) (T := T) (dst := dst) (guard := guard) (ty := ty) (pos := pos) (after := after) (E := E) (hρ _ _ hx) (hρ _ _ hy) (fun w => by rw [hn]; exact hS w) (cellsO_spec hc) (oneCells_spec h1) h2 h3 hb
  rw [h4]
  exact ⟨gh0, rfl, trivial, (Tr.start (Disj.one _) (fun r hr => by simp only [List.mem_singleton] at hr; subst hr; exact hb)).setRow⟩
theorem em_make {α : Type} {e : Enc α} {T E : TypeId} {ty : TypeId} {x y : Operand} {kl kc : IntKind} {n bytes : Nat} {z : List Value} (x0 : α) (hm : mkOf P T = some (E, z, bytes)) (he : e.f x0 = z) (hx : opv U x = some (.int kl (n : Int))) (hy : opv U y = some (.int kc (n : Int))) (hb : (bytes : Int) * n ≤ 281474976710656) (h63 : (n : Int) ≤ 9223372036854775807) :
    EvM P U w0 L0 L [] (.makeSlice T x y) ty (fun g => .slice (g 0).1 (List.replicate n x0).length (g 0).2) (fun _ => True) (fun g => trow (g 0).1 (g 0).2 E e (List.replicate n x0)) := by
  intro ρ w dst pos after guard hρ hT
  have := e_make (P := P) (U := U) (w0 := w0) (L0 := L0) (L := L) (ty := ty) hm hx hy (Int.natCast_nonneg n) (Int.le_refl _) hb h63 ρ w dst pos after guard hρ hT
  rw [Int.toNat_natCast, zeros_fl e x0 he] at this
  rw [List.length_replicate]
  have key : ∀ b w w', Tr w [] w' [cl b E (e.fl (List.replicate n x0))] → Tr w [] w' [trow (some ⟨b, 0, none⟩) n E e (List.replicate n x0)] := fun b w w' h => by
    have h := h.cl_row (e.fl_length _)
    rwa [List.length_replicate] at h
  generalize (execOp ρ ⟨dst, _, ty, pos, after, guard⟩).run P w = r at *
  cases r with
  | ok n' w' =>
    cases n' <;> simp only [calmUpon] at this
    case value v => obtain ⟨⟨b, rfl⟩, h⟩ := this; exact ⟨fun _ => (some ⟨b, 0, none⟩, n), rfl, trivial, key b _ _ h⟩
    case skip => obtain ⟨⟨b, h0⟩, h⟩ := this; rw [h0] at h; exact ⟨fun _ => (some ⟨b, 0, none⟩, n), h0, trivial, key b _ _ h⟩
    case enter f args => exact ⟨this.1, this.2.mono fun e' w'' ⟨v, h1, ⟨b, h0⟩, h3⟩ => by subst h0; exact ⟨fun _ => (some ⟨b, 0, none⟩, n), h1, trivial, key b _ _ h3⟩⟩
  | halt x w' => exact this
end
end Go.K.D
