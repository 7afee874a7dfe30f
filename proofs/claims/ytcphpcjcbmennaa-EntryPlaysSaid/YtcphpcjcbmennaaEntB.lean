/- What the calls of an index give: New, Put, Del, Get, Pin, Class, Move, Many. -/
import Derived.Test.YtcphpcjcbmennaaEntA
namespace Go.Proofs.Ytcphpcjcbmennaa
open Go Go.K
set_option linter.unusedVariables false
set_option linter.unusedSimpArgs false
attribute [local irreducible] Calls Ev GL GC GQ GR Code.wp
theorem mod_end {g : IG} {d : Nat} {k : Int} {A B : List NE} {e : NE} {x : EX} {w0 w : World} {L0 : List Res} (hk : g.Ok) (hes : g.es = A ++ e :: B) (hid : e.x.id = k) (hA : ∀ y ∈ A, y.x.id ≠ k) (hx : x.id = k) (hsv : x.sv = e.x.sv) (f : EX → EX) (hf : f e.x = x)
    (hT : Tr w0 L0 w [cl e.b 33 (encE x e.a e.c), rowj e.a e.c 1 9 (strs e.x.sv) e.junk, all ((A ++ B).map entR), cl d 62 [.map (some g.mb)], mp g.mb (g.es.map NE.me) g.c]) :
    ∃ y : IG, y.Ok ∧ y.ents = xmod k f g.ents ∧ Tr w0 L0 w [IdxR d y] := by
  have hm : (⟨e.b, x, e.a, e.c, e.n, e.junk⟩ : NE).me = e.me := by unfold NE.me; rw [hx, hid]
  have hme : (A ++ (⟨e.b, x, e.a, e.c, e.n, e.junk⟩ : NE) :: B).map NE.me = g.es.map NE.me := by rw [hes]; simp only [List.map_append, List.map_cons, hm]
  refine ⟨{ g with es := A ++ ⟨e.b, x, e.a, e.c, e.n, e.junk⟩ :: B }, ⟨by show MOk ((A ++ _ :: B).map NE.me) g.c; rw [hme]; exact hk.mok, fun y hy => ?_⟩, ?_, ?_⟩
  · rcases List.mem_append.1 hy with h | h
    · exact hk.sv y (by rw [hes]; exact List.mem_append_left _ h)
    · rcases List.mem_cons.1 h with rfl | h
      · show x.sv.length ≤ 9000; rw [hsv]; exact hk.sv e (by rw [hes]; simp)
      · exact hk.sv y (by rw [hes]; exact List.mem_append_right _ (List.mem_cons_of_mem _ h))
  · unfold IG.ents
    rw [hes, (x_mid hid hA).1 f, hf]
    simp
  · have h1 : Tr w0 L0 w (entL ⟨e.b, x, e.a, e.c, e.n, e.junk⟩ ++ [all ((A ++ B).map entR), cl d 62 [.map (some g.mb)], mp g.mb (g.es.map NE.me) g.c]) := by
      unfold entL; simp only [hsv]; exact hT
    have h2 := Tr.closed h1
    rw [List.map_append] at h2
    have h3 := Tr.push (A := A.map entR) (B := B.map entR) (r := entR ⟨e.b, x, e.a, e.c, e.n, e.junk⟩) h2
    have h4 : Tr w0 L0 w [cl d 62 [.map (some g.mb)], mp g.mb (g.es.map NE.me) g.c, all (A.map entR ++ entR ⟨e.b, x, e.a, e.c, e.n, e.junk⟩ :: B.map entR)] := h3.sub (Sub.take (i := 1) rfl (Sub.take (i := 1) rfl (Sub.take (i := 0) rfl (Sub.nil _))))
    have h5 := h4.one
    unfold IdxR IG.L
    simp only [hme]
    rw [List.map_append (f := entR), List.map_cons (f := entR)]
    exact h5
theorem put_end {g : IG} {d b c : Nat} {a : Option Addr} {x : EX} {w0 w : World} {L0 : List Res} (hk : g.Ok) (hi : I64 x.id) (hs : x.sv.length ≤ 9000)
    (hT : Tr w0 L0 w [row a c 1 9 (strs x.sv), cl b 33 (encE x a c), cl d 62 [.map (some g.mb)], mp g.mb (mput x.id (.pointer (some ⟨b, 0, none⟩)) (g.es.map NE.me) g.c).1 (mput x.id (.pointer (some ⟨b, 0, none⟩)) (g.es.map NE.me) g.c).2, all (g.es.map entR)]) :
    ∃ y : IG, y.Ok ∧ y.ents = xput x g.ents ∧ Tr w0 L0 w [IdxR d y] := by
  obtain ⟨junk, hT⟩ := hT.row_j
  rcases find_ent x.id g.es with ⟨h1, h2, h3⟩ | ⟨A, e, B, hes, h1, h2, h3, h4⟩
  · have em : mput x.id (.pointer (some ⟨b, 0, none⟩)) (g.es.map NE.me) g.c = ((g.es ++ [(⟨b, x, a, c, g.c, junk⟩ : NE)]).map NE.me, g.c + 1) := by
      unfold mput; rw [h1]; simp [NE.me]
    rw [em] at hT
    refine ⟨{ g with es := g.es ++ [(⟨b, x, a, c, g.c, junk⟩ : NE)], c := g.c + 1 }, ⟨?_, fun y hy => ?_⟩, ?_, ?_⟩
    · show MOk ((g.es ++ [(⟨b, x, a, c, g.c, junk⟩ : NE)]).map NE.me) (g.c + 1)
      rw [List.map_append]
      exact hk.mok.add (fun z hz => by obtain ⟨e, he, rfl⟩ := List.mem_map.1 hz; exact h3 e he) hi
    · rcases List.mem_append.1 hy with h | h
      · exact hk.sv y h
      · simp only [List.mem_singleton] at h; subst h; exact hs
    · unfold IG.ents; rw [x_new h3, List.map_append]; rfl
    · have q1 : Tr w0 L0 w [cl b 33 (encE x a c), rowj a c 1 9 (strs x.sv) junk, cl d 62 [.map (some g.mb)], mp g.mb ((g.es ++ [(⟨b, x, a, c, g.c, junk⟩ : NE)]).map NE.me) (g.c + 1), all (g.es.map entR)] := hT.sub (Sub.take (i := 1) rfl (Sub.take (i := 0) rfl (Sub.refl _)))
      have q2 : Tr w0 L0 w (entR ⟨b, x, a, c, g.c, junk⟩ :: [cl d 62 [.map (some g.mb)], mp g.mb ((g.es ++ [(⟨b, x, a, c, g.c, junk⟩ : NE)]).map NE.me) (g.c + 1), all (g.es.map entR)]) := Tr.closed (l := entL ⟨b, x, a, c, g.c, junk⟩) q1
      have q3 : Tr w0 L0 w (entR ⟨b, x, a, c, g.c, junk⟩ :: all (g.es.map entR ++ []) :: [cl d 62 [.map (some g.mb)], mp g.mb ((g.es ++ [(⟨b, x, a, c, g.c, junk⟩ : NE)]).map NE.me) (g.c + 1)]) := by
        rw [List.append_nil]
        exact q2.sub (Sub.take (i := 0) rfl (Sub.take (i := 2) rfl (Sub.refl _)))
      have q4 := q3.push
      have q5 := (q4.sub (Sub.take (i := 1) rfl (Sub.take (i := 1) rfl (Sub.take (i := 0) rfl (Sub.nil _))))).one
      unfold IdxR IG.L
      simp only [List.map_append, List.map_cons, List.map_nil] at q5 ⊢
      exact q5
  · have em : mput x.id (.pointer (some ⟨b, 0, none⟩)) (g.es.map NE.me) g.c = ((A ++ (⟨b, x, a, c, e.n, junk⟩ : NE) :: B).map NE.me, g.c) := by
      unfold mput; rw [h3]; simp only [hes, (x_mid h1 h2).2.2.2.1]; simp [NE.me]
    rw [em] at hT
    refine ⟨{ g with es := A ++ ⟨b, x, a, c, e.n, junk⟩ :: B }, ⟨?_, fun y hy => ?_⟩, ?_, ?_⟩
    · have hm := hk.mok
      rw [hes, List.map_append, List.map_cons] at hm
      show MOk ((A ++ (⟨b, x, a, c, e.n, junk⟩ : NE) :: B).map NE.me) g.c
      rw [List.map_append, List.map_cons]
      have : NE.me ⟨b, x, a, c, e.n, junk⟩ = ⟨e.x.id, .pointer (some ⟨b, 0, none⟩), e.n⟩ := by unfold NE.me; simp only [h1]
      rw [this]
      exact MOk.mid hm
    · rcases List.mem_append.1 hy with h | h
      · exact hk.sv y (by rw [hes]; exact List.mem_append_left _ h)
      · rcases List.mem_cons.1 h with rfl | h
        · exact hs
        · exact hk.sv y (by rw [hes]; exact List.mem_append_right _ (List.mem_cons_of_mem _ h))
    · unfold IG.ents; rw [hes, (x_mid h1 h2).2.2.1 x rfl]; simp
    · have q0 : Tr w0 L0 w [all (A.map entR ++ entR e :: B.map entR), cl b 33 (encE x a c), rowj a c 1 9 (strs x.sv) junk, cl d 62 [.map (some g.mb)], mp g.mb ((A ++ (⟨b, x, a, c, e.n, junk⟩ : NE) :: B).map NE.me) g.c] := by
        rw [hes, List.map_append (f := entR), List.map_cons (f := entR)] at hT
        exact hT.sub (Sub.take (i := 4) rfl (Sub.take (i := 1) rfl (Sub.take (i := 0) rfl (Sub.refl _))))
      have q1 := q0.pull
      have q2 : Tr w0 L0 w (entL ⟨b, x, a, c, e.n, junk⟩ ++ [all (A.map entR ++ B.map entR), cl d 62 [.map (some g.mb)], mp g.mb ((A ++ (⟨b, x, a, c, e.n, junk⟩ : NE) :: B).map NE.me) g.c]) := q1.sub (Sub.take (i := 2) rfl (Sub.take (i := 2) rfl (Sub.take (i := 1) rfl (Sub.take (i := 1) rfl (Sub.take (i := 1) rfl (Sub.nil _))))))
      have q3 := (Tr.closed q2).push
      have q5 := (q3.sub (Sub.take (i := 1) rfl (Sub.take (i := 1) rfl (Sub.take (i := 0) rfl (Sub.nil _))))).one
      unfold IdxR IG.L
      rw [List.map_append (f := entR), List.map_cons (f := entR)]
      exact q5
theorem del_end {g : IG} {d : Nat} {k : Int} {w0 w : World} {L0 : List Res} (hk : g.Ok) (hT : Tr w0 L0 w [cl d 62 [.map (some g.mb)], mp g.mb (mdel k (g.es.map NE.me)) g.c, all (g.es.map entR)]) :
    ∃ y : IG, y.Ok ∧ y.ents = xdel k g.ents ∧ Tr w0 L0 w [IdxR d y] := by
  rcases find_ent k g.es with ⟨h1, h2, h3⟩ | ⟨A, e, B, hes, h1, h2, h3, h4⟩
  · rw [mdel_none _ _ h1] at hT
    exact ⟨g, hk, (xdel_none h2).symm, hT.one⟩
  · refine ⟨{ g with es := A ++ B }, ⟨?_, fun y hy => hk.sv y ?_⟩, ?_, ?_⟩
    · have hm := hk.mok
      rw [hes, List.map_append, List.map_cons] at hm
      show MOk ((A ++ B).map NE.me) g.c
      rw [List.map_append]
      exact MOk.out hm
    · rw [hes]
      rcases List.mem_append.1 hy with h | h
      · exact List.mem_append_left _ h
      · exact List.mem_append_right _ (List.mem_cons_of_mem _ h)
    · unfold IG.ents; rw [hes, (x_mid h1 h2).2.1]; simp
    · rw [hes, (x_mid h1 h2).2.2.2.2, List.map_append (f := entR), List.map_cons (f := entR), ← List.map_append (f := NE.me)] at hT
      have q0 : Tr w0 L0 w (all (A.map entR ++ entR e :: B.map entR) :: [cl d 62 [.map (some g.mb)], mp g.mb ((A ++ B).map NE.me) g.c]) := hT.sub (Sub.take (i := 2) rfl (Sub.refl _))
      have q1 := q0.pull
      have q2 : Tr w0 L0 w [cl d 62 [.map (some g.mb)], mp g.mb ((A ++ B).map NE.me) g.c, all (A.map entR ++ B.map entR)] := q1.sub (Sub.take (i := 2) rfl (Sub.take (i := 2) rfl (Sub.take (i := 1) rfl (Sub.nil _))))
      unfold IdxR IG.L
      rw [List.map_append (f := entR)]
      exact q2.one
theorem sl_stay0 {w0 w : World} {r : Res} {L : List Res} {a : Option Addr} {n : Nat} {xs : List Value} (h : Sl w0 1 a n xs) (hT : Tr w0 [r] w L) (hn : 0 < n → ¬ r.fp (bk a)) : Sl w 1 a n xs := by
  rcases Nat.eq_zero_or_pos n with h0 | h0
  · subst h0
    have hl := h.len
    rw [Nat.zero_mul] at hl
    obtain rfl := List.length_eq_zero_iff.1 hl
    exact ⟨by simp, fun h => absurd h (by omega), fun j v hj => by simp at hj⟩
  · exact h.stay hT fun s hs => by simp only [List.mem_singleton] at hs; subst hs; exact hn h0
theorem pull_sub {g : IG} {d : Nat} {A B : List NE} {e : NE} (hes : g.es = A ++ e :: B) : Sub [all (A.map entR ++ entR e :: B.map entR), cl d 62 [.map (some g.mb)], mp g.mb (g.es.map NE.me) g.c] (g.L d) := by
  have e2 : g.es.map entR = A.map entR ++ entR e :: B.map entR := by rw [hes]; simp
  unfold IG.L
  rw [e2]
  exact Sub.take (i := 2) rfl (Sub.refl _)

theorem mk29 : K.mkOf Try.prog 29 = some (9, [.string ⟨#[]⟩], 16) := by kernel_rfl
/- slices.Clone[[]string,string] -/
set_option maxHeartbeats 1000000 in
set_option maxRecDepth 100000 in
theorem clone_con {a0 : Option Addr} {n c0 : Nat} {l : List Bytes} {w : World} (hS : Sl w 1 a0 n (strs l)) (hn : n ≤ 9000) :
    Calls Try.prog 48 #[.slice a0 n c0] w fun e w' => ∃ a c, e = .returned (.slice a n c) ∧ Tr w [] w' [row a c 1 9 (strs l)] := by
  have hl : l.length = n := by have := hS.len; rw [strs_length] at this; omega
  refine K.enter0 (args := [_]) Try.func48 rfl Try.ntmps48 rfl ?_
  refine K.GC.seq ?_
  refine K.GC.region ?_
  refine K.GL.det (K.e_assign rfl) rfl ?_
  refine K.GL.nil ?_
  refine K.GQ.go ?_
  refine K.GC.seq ?_
  refine K.GC.seq ?_
  refine K.GC.region ?_
  refine K.GL.det (K.e_move rfl) rfl ?_
  refine K.GL.det ((K.e_eqSl Try.underlying29 rfl rfl)) rfl ?_
  refine K.GL.nil ?_
  refine K.GQ.go ?_
  refine K.GC.condB rfl (fun h1 => ?_) (fun h1 => ?_)
  · first
    | exact absurd h1 (by decide)
    | try replace h1 := of_decide_eq_true h1
      refine K.GC.seq ?_
      obtain ⟨rfl⟩ : a0 = none := Option.isNone_iff_eq_none.1 (by assumption)
      obtain rfl : n = 0 := by
        apply Classical.byContradiction
        intro hne
        have := hS.base (by omega)
        cases this
      obtain rfl : l = [] := List.length_eq_zero_iff.1 hl
      refine K.GC.region ?_
      refine K.GL.det (K.e_assign rfl) rfl ?_
      refine K.GL.nil ?_
      refine K.GQ.go ?_
      refine K.GC.ret ?_
      refine K.GQ.then_ret ?_
      refine K.GQ.ret1 Try.results48 rfl (fun w hT => ?_)
      first
        | exact ⟨_, _, rfl, hT⟩
        | (obtain rfl : l = [] := List.length_eq_zero_iff.1 hl
           exact ⟨_, _, rfl, hT⟩)
        | exact ⟨none, 0, rfl, hT.row_nil _ _⟩
  · first
    | exact absurd h1 (by decide)
    | try replace h1 := of_decide_eq_false h1
      refine K.GC.skip ?_
      refine K.GQ.go ?_
      refine K.GC.seq ?_
      rcases Nat.eq_zero_or_pos n with hn0 | hn0
      all_goals
        refine K.GC.region ?_
        refine K.GL.buildSlice mk29 rfl rfl rfl (fun b5 => ?_)
        refine K.GL.cl_row (c := 0) (k := 1) rfl ?_
        refine K.GL.det (K.e_move rfl) rfl ?_
        first
          | (subst hn0; refine K.GL.det (K.e_append0 mk29 rfl (by omega) rfl) rfl ?_)
          | (obtain ⟨p, rfl⟩ : ∃ p, a0 = some p := ⟨_, hS.base hn0⟩; refine K.GL.append mk29 rfl rfl rfl rfl (fun w hT => hS.stay hT (fun r hr => by cases hr)) (by omega) (oneCells_spec (oneCells_strs l)) (by omega) (by omega) _ rfl (fun a7 c7 => ?_); rw [Nat.zero_add])
        refine K.GL.det (K.e_assign rfl) rfl ?_
        refine K.GL.nil ?_
        refine K.GQ.go ?_
        refine K.GC.ret ?_
        refine K.GQ.ret1 Try.results48 rfl (fun w hT => ?_)
        first
          | exact ⟨_, _, rfl, hT⟩
          | (obtain rfl : l = [] := List.length_eq_zero_iff.1 hl
             exact ⟨_, _, rfl, hT⟩)
          | exact ⟨none, 0, rfl, hT.row_nil _ _⟩

section
variable {ops : Array Oper} {Q : Exit → Act → World → Prop} {N : Nat} {U : Env} {w0 : World} {L0 L F : List Res} {ty : TypeId} {rest : List Oper} {pos : String} {after : Array Edge} {d : Nat} {g : IG} {xs : List Operand} {tys : Array TypeId} {t : Tmp}
theorem gl_clone {a0 : Option Addr} {n c0 : Nat} {l : List Bytes} (hf : ∀ args w, (callFunc 48 args).run Try.prog w = .ok (.enter 48 args) w) (hx : opvs U xs = some [.slice a0 n c0]) (hS : ∀ w, Tr w0 L0 w L → Sl w 1 a0 n (strs l)) (hn : n ≤ 9000) (hd : Nat.ble (t + 1) N = true)
    (hr : ∀ a c, GL Try.prog ops Q rest N ((t, .slice a n c) :: U) w0 L0 (row a c 1 9 (strs l) :: L)) : GL Try.prog ops Q (⟨some t, .call ⟨.value (.func 48), xs.toArray, tys⟩, ty, pos, after, Option.none⟩ :: rest) N U w0 L0 L :=
  GL.callM (α := Option Addr × Nat) (l := []) (Pv := fun x v => v = .slice x.1 n x.2) (l' := fun x => [row x.1 x.2 1 9 (strs l)]) hf hx (Sub.refl _)
    (fun w hT => (clone_con (hS w hT) hn).mono fun e w' ⟨a, c, h1, h2⟩ => ⟨(a, c), _, h1, rfl, h2⟩) hd fun x v hv => by subst hv; exact hr x.1 x.2
end

theorem fo31_4 : K.fieldOff Try.prog 31 4 = some (29, 4, 1) := by kernel_rfl
theorem fo33_1 : K.fieldOff Try.prog 33 1 = some (31, 5, 5) := by kernel_rfl
/- turntable/entry.own -/
set_option maxHeartbeats 1000000 in
set_option maxRecDepth 100000 in
theorem own_con (x : EX) {a0 : Option Addr} {c0 : Nat} {w : World} (hS : Sl w 1 a0 x.sv.length (strs x.sv)) (hn : x.sv.length ≤ 9000) :
    Calls Try.prog 38 #[.agg (encE x a0 c0).toArray] w fun e w' => ∃ a c, e = .returned (.agg (encE x a c).toArray) ∧ Tr w [] w' [row a c 1 9 (strs x.sv)] := by
  refine K.enter0 (args := [_]) Try.func38 rfl Try.ntmps38 rfl ?_
  refine K.GC.seq ?_
  refine K.GC.region ?_
  refine K.GL.box rfl rfl rfl (fun b1 => ?_)
  refine K.GL.alloc Try.zeroValue33 rfl rfl (fun b2 => ?_)
  refine K.GL.nil ?_
  refine K.GQ.go ?_
  refine K.GC.seq ?_
  refine K.GC.region ?_
  refine K.GL.det (K.e_fieldAddr fo33_1 rfl) rfl ?_
  refine K.GL.det (K.e_fieldAddr fo31_4 rfl) rfl ?_
  first | refine K.GL.det (K.e_load Try.isAgg29 rfl rfl) rfl ?_ | refine K.GL.det (K.e_load0 Try.isAgg29 rfl (by assumption)) rfl ?_
  refine gl_clone Try.call48 rfl (fun w hT => hS.stay hT (fun r hr => by cases hr)) hn rfl (fun a6 c6 => ?_)
  refine K.GL.det (K.e_fieldAddr fo33_1 rfl) rfl ?_
  refine K.GL.det (K.e_fieldAddr fo31_4 rfl) rfl ?_
  refine K.GL.store rfl rfl rfl Try.sizeOf29 rfl rfl ?_
  refine K.GL.nil ?_
  refine K.GQ.go ?_
  refine K.GC.seq ?_
  refine K.GC.region ?_
  refine K.GL.det (K.e_loads Try.isAgg33 Try.sizeOf33 rfl rfl) rfl ?_
  refine K.GL.store rfl rfl rfl Try.sizeOf33 rfl rfl ?_
  refine K.GL.nil ?_
  refine K.GQ.go ?_
  refine K.GC.ret ?_
  refine K.GQ.retc Try.results38 Try.isAgg33 Try.sizeOf33 rfl rfl (fun w hT => ?_)
  exact ⟨a6, c6, rfl, hT.sub (Sub.take (i := 0) rfl (Sub.nil _))⟩

section
variable {ops : Array Oper} {Q : Exit → Act → World → Prop} {N : Nat} {U : Env} {w0 : World} {L0 L F : List Res} {ty : TypeId} {rest : List Oper} {pos : String} {after : Array Edge} {d : Nat} {g : IG} {xs : List Operand} {tys : Array TypeId} {t : Tmp}
theorem gl_own {x : EX} {a0 : Option Addr} {c0 : Nat} (hf : ∀ args w, (callFunc 38 args).run Try.prog w = .ok (.enter 38 args) w) (hx : opvs U xs = some [.agg (encE x a0 c0).toArray]) (hS : ∀ w, Tr w0 L0 w L → Sl w 1 a0 x.sv.length (strs x.sv)) (hn : x.sv.length ≤ 9000) (hd : Nat.ble (t + 1) N = true)
    (hr : ∀ a c, GL Try.prog ops Q rest N ((t, .agg (encE x a c).toArray) :: U) w0 L0 (row a c 1 9 (strs x.sv) :: L)) : GL Try.prog ops Q (⟨some t, .call ⟨.value (.func 38), xs.toArray, tys⟩, ty, pos, after, Option.none⟩ :: rest) N U w0 L0 L :=
  GL.callM (α := Option Addr × Nat) (l := []) (Pv := fun y v => v = .agg (encE x y.1 y.2).toArray) (l' := fun y => [row y.1 y.2 1 9 (strs x.sv)]) hf hx (Sub.refl _)
    (fun w hT => (own_con x (hS w hT) hn).mono fun e w' ⟨a, c, h1, h2⟩ => ⟨(a, c), _, h1, rfl, h2⟩) hd fun y v hv => by subst hv; exact hr y.1 y.2
end

theorem lay62 : K.layout Try.prog 62 = some ([.map none], [(0, 1)]) := by kernel_rfl
/- turntable/entry.New -/
set_option maxHeartbeats 1000000 in
set_option maxRecDepth 100000 in
theorem new_con {w : World} :
    Calls Try.prog 10 #[] w fun e w' => ∃ d g, e = .returned (.pointer (some ⟨d, 0, none⟩)) ∧ g.Ok ∧ g.ents = [] ∧ Tr w [] w' [IdxR d g] := by
  refine K.enter0 (args := []) Try.func10 rfl Try.ntmps10 rfl ?_
  refine K.GC.seq ?_
  refine K.GC.region ?_
  refine K.GL.det (K.e_assign rfl) rfl ?_
  refine K.GL.nil ?_
  refine K.GQ.go ?_
  refine K.GC.seq ?_
  refine K.GC.region ?_
  refine K.GL.makeMap rfl (fun b1 => ?_)
  refine K.GL.det (K.e_build lay62 rfl) rfl ?_
  refine K.GL.box rfl rfl rfl (fun b3 => ?_)
  refine K.GL.det (K.e_assign rfl) rfl ?_
  refine K.GL.nil ?_
  refine K.GQ.go ?_
  refine K.GC.ret ?_
  refine K.GQ.ret1 Try.results10 rfl (fun w hT => ?_)
  exact ⟨_, ⟨b1, [], 0⟩, rfl, ⟨⟨by simp, by simp, by simp, by simp⟩, by simp⟩, rfl, Tr.one (l := IG.L ⟨b1, [], 0⟩ b3) ((Tr.closed (l := []) hT).sub (Sub.take (i := 1) rfl (Sub.take (i := 1) rfl (Sub.take (i := 0) rfl (Sub.nil _)))))⟩
theorem fo62_0 : K.fieldOff Try.prog 62 0 = some (60, 0, 1) := by kernel_rfl
/- (*turntable/entry.Index).Many -/
set_option maxHeartbeats 1000000 in
set_option maxRecDepth 100000 in
theorem many_con {d : Nat} {g : IG} {w : World} (ho : (IdxR d g).ok w.heap) :
    Calls Try.prog 26 #[.pointer (some ⟨d, 0, none⟩)] w fun e w' => e = .returned (.int .i64 g.ents.length) ∧ Tr w [] w' [] := by
  refine K.enter (args := [_]) Try.func26 rfl Try.ntmps26 rfl (Disj.one _) (by intro x hx; simp only [List.mem_singleton] at hx; subst hx; exact ho) ?_
  refine K.GC.opened1 ?_
  refine K.GC.seq ?_
  refine K.GC.region ?_
  refine K.GL.det (K.e_assign rfl) rfl ?_
  refine K.GL.nil ?_
  refine K.GQ.go ?_
  refine K.GC.seq ?_
  refine K.GC.region ?_
  refine K.GL.det (K.e_move rfl) rfl ?_
  refine K.GL.det (K.e_nilCheck rfl) rfl ?_
  refine K.GL.det (K.e_fieldAddr fo62_0 rfl) rfl ?_
  first | refine K.GL.det (K.e_load Try.isAgg60 rfl rfl) rfl ?_ | refine K.GL.det (K.e_load0 Try.isAgg60 rfl (by assumption)) rfl ?_
  refine K.GL.det (K.e_lenm Try.underlying60 rfl) rfl ?_
  refine K.GL.det (K.e_assign rfl) rfl ?_
  refine K.GL.nil ?_
  refine K.GQ.go ?_
  refine K.GC.ret ?_
  refine K.GQ.ret1 Try.results26 rfl (fun w hT => ?_)
  exact ⟨by simp [IG.ents], hT.one.calmed ho (IdxR.precise d g) (IdxR.wild d g)⟩
theorem lay33 : K.layout Try.prog 33 = some ([.int .i64 0, .int .i64 0, .int .i64 0, .int .i64 0, .bool false, .int .i64 0, .int .i64 0, .int .i64 0, .int .i64 0, .slice none 0 0, .int .i64 0, .int .i64 0, .int .i64 0], [(0, 5), (5, 5), (10, 1), (11, 1), (12, 1)]) := by kernel_rfl
/- (*turntable/entry.Index).Get -/
set_option maxHeartbeats 1000000 in
set_option maxRecDepth 100000 in
theorem get_con {d : Nat} {g : IG} (hk : g.Ok) (k : Int) {w : World} (ho : (IdxR d g).ok w.heap) :
    Calls Try.prog 12 #[.pointer (some ⟨d, 0, none⟩), .int .i64 k] w fun e w' => ∃ a c, e = .returned (.tuple #[.agg (encE ((xget k g.ents).getD EX.zero) a c).toArray, .bool (xget k g.ents).isSome]) ∧ Tr w [] w' [row a c 1 9 (strs ((xget k g.ents).getD EX.zero).sv)] := by
  refine K.enter (args := [_, _]) Try.func12 rfl Try.ntmps12 rfl (Disj.one _) (by intro x hx; simp only [List.mem_singleton] at hx; subst hx; exact ho) ?_
  refine K.GC.opened1 ?_
  rcases find_ent k g.es with ⟨hm1, hx1, hno⟩ | ⟨A, e1, B, hes, hid, hA, hm1, hx1⟩
  all_goals have hxe : xget k g.ents = _ := hx1
  all_goals
  refine K.GC.seq ?_
  refine K.GC.region ?_
  refine K.GL.alloc Try.zeroValue33 rfl rfl (fun b4 => ?_)
  refine K.GL.det (K.e_assign rfl) rfl ?_
  refine K.GL.nil ?_
  refine K.GQ.go ?_
  refine K.GC.seq ?_
  refine K.GC.region ?_
  refine K.GL.det (K.e_move rfl) rfl ?_
  refine K.GL.det (K.e_nilCheck rfl) rfl ?_
  refine K.GL.det (K.e_fieldAddr fo62_0 rfl) rfl ?_
  first | refine K.GL.det (K.e_load Try.isAgg60 rfl rfl) rfl ?_ | refine K.GL.det (K.e_load0 Try.isAgg60 rfl (by assumption)) rfl ?_
  refine K.GL.det (K.e_move rfl) rfl ?_
  first | refine K.GL.det (K.e_lookup_none Try.underlying60 Try.underlying2 Try.zeroValue63 rfl rfl hm1) rfl ?_ | refine K.GL.det (K.e_lookup_some Try.underlying60 Try.underlying2 Try.zeroValue63 rfl rfl hm1) rfl ?_
  refine K.GL.det (K.e_move rfl) rfl ?_
  refine K.GL.det (K.e_extract rfl rfl) rfl ?_
  refine K.GL.det (K.e_extract rfl rfl) rfl ?_
  refine K.GL.det (K.e_assign rfl) rfl ?_
  refine K.GL.det (K.e_assign rfl) rfl ?_
  refine K.GL.nil ?_
  refine K.GQ.go ?_
  refine K.GC.seq ?_
  refine K.GC.seq ?_
  refine K.GC.region ?_
  refine K.GL.det (K.e_move rfl) rfl ?_
  first | refine K.GL.det (K.e_notp rfl) rfl ?_ | refine K.GL.det (K.e_not rfl) rfl ?_
  refine K.GL.nil ?_
  refine K.GQ.go ?_
  refine K.GC.condB rfl (fun h1 => ?_) (fun h1 => ?_)
  · first
    | exact absurd h1 (by decide)
    | try replace h1 := of_decide_eq_true h1
      refine K.GC.seq ?_
      refine K.GC.region ?_
      refine K.GL.det (K.e_build lay33 rfl) rfl ?_
      refine K.GL.store rfl rfl rfl Try.sizeOf33 rfl rfl ?_
      refine K.GL.det (K.e_assign rfl) rfl ?_
      refine K.GL.nil ?_
      refine K.GQ.go ?_
      refine K.GC.ret ?_
      refine K.GQ.then_ret ?_
      refine K.GQ.ret_ct Try.results12 Try.isAgg33 Try.sizeOf33 rfl rfl rfl (fun w hT => ?_)
      first
        | (rw [hxe]; exact ⟨none, 0, rfl, (Tr.one (l := g.L d) (hT.sub (Sub.take (i := 1) rfl (Sub.take (i := 1) rfl (Sub.take (i := 1) rfl (Sub.nil _)))))).calmed (l := []) ho (IdxR.precise d g) (IdxR.wild d g) |>.row_nil _ _⟩)
        | (rw [hxe]; exact ⟨a23, c23, rfl, idx_calm ho (hT.sub (Sub.take (i := 0) rfl (Sub.take (i := 1) rfl (Sub.take (i := 1) rfl (Sub.take (i := 1) rfl (Sub.nil _))))))⟩)
  · first
    | exact absurd h1 (by decide)
    | try replace h1 := of_decide_eq_false h1
      refine K.GC.skip ?_
      refine K.GQ.go ?_
      refine K.GC.seq ?_
      refine K.GC.region ?_
      refine K.GL.det (K.e_move rfl) rfl ?_
      refine K.GL.det (K.e_nilCheck rfl) rfl ?_
      refine K.GL.det (K.e_loadsw Try.isAgg33 Try.sizeOf33 rfl (fun w hT => (ent_cells (hT.ok (all (g.es.map entR)) (by simp)) (by rw [hes]; simp)).1) (encE_len _ _ _)) rfl ?_
      refine gl_own Try.call38 rfl (fun w hT => (ent_cells (hT.ok (all (g.es.map entR)) (by simp)) (by rw [hes]; simp)).2) (hk.sv e1 (by rw [hes]; simp)) rfl (fun a23 c23 => ?_)
      refine K.GL.store rfl rfl rfl Try.sizeOf33 rfl rfl ?_
      refine K.GL.det (K.e_assign rfl) rfl ?_
      refine K.GL.nil ?_
      refine K.GQ.go ?_
      refine K.GC.ret ?_
      refine K.GQ.ret_ct Try.results12 Try.isAgg33 Try.sizeOf33 rfl rfl rfl (fun w hT => ?_)
      first
        | (rw [hxe]; exact ⟨none, 0, rfl, (Tr.one (l := g.L d) (hT.sub (Sub.take (i := 1) rfl (Sub.take (i := 1) rfl (Sub.take (i := 1) rfl (Sub.nil _)))))).calmed (l := []) ho (IdxR.precise d g) (IdxR.wild d g) |>.row_nil _ _⟩)
        | (rw [hxe]; exact ⟨a23, c23, rfl, idx_calm ho (hT.sub (Sub.take (i := 0) rfl (Sub.take (i := 1) rfl (Sub.take (i := 1) rfl (Sub.take (i := 1) rfl (Sub.nil _))))))⟩)
theorem fo28_4 : K.fieldOff Try.prog 28 4 = some (4, 4, 1) := by kernel_rfl
theorem fo33_0 : K.fieldOff Try.prog 33 0 = some (28, 0, 5) := by kernel_rfl
/- (*turntable/entry.Index).Pin -/
set_option maxHeartbeats 1000000 in
set_option maxRecDepth 100000 in
theorem pin_con {d : Nat} {g : IG} (hk : g.Ok) (k : Int) (is : Bool) {w : World} (ho : (IdxR d g).ok w.heap) :
    Calls Try.prog 14 #[.pointer (some ⟨d, 0, none⟩), .int .i64 k, .bool is] w fun e w' => ∃ y : IG, e = .returned (.bool (xget k g.ents).isSome) ∧ y.Ok ∧ y.ents = xmod k (fun y => { y with pin := is }) g.ents ∧ Tr w [IdxR d g] w' [IdxR d y] := by
  refine K.enter (args := [_, _, _]) Try.func14 rfl Try.ntmps14 rfl (Disj.one _) (by intro x hx; simp only [List.mem_singleton] at hx; subst hx; exact ho) ?_
  refine K.GC.opened1 ?_
  rcases find_ent k g.es with ⟨hm1, hx1, hno⟩ | ⟨A, e1, B, hes, hid, hA, hm1, hx1⟩
  all_goals have hxe : xget k g.ents = _ := hx1
  all_goals
  refine K.GC.seq ?_
  refine K.GC.region ?_
  refine K.GL.det (K.e_assign rfl) rfl ?_
  refine K.GL.nil ?_
  refine K.GQ.go ?_
  refine K.GC.seq ?_
  refine K.GC.region ?_
  refine K.GL.det (K.e_move rfl) rfl ?_
  refine K.GL.det (K.e_nilCheck rfl) rfl ?_
  refine K.GL.det (K.e_fieldAddr fo62_0 rfl) rfl ?_
  first | refine K.GL.det (K.e_load Try.isAgg60 rfl rfl) rfl ?_ | refine K.GL.det (K.e_load0 Try.isAgg60 rfl (by assumption)) rfl ?_
  refine K.GL.det (K.e_move rfl) rfl ?_
  first | refine K.GL.det (K.e_lookup_none Try.underlying60 Try.underlying2 Try.zeroValue63 rfl rfl hm1) rfl ?_ | refine K.GL.det (K.e_lookup_some Try.underlying60 Try.underlying2 Try.zeroValue63 rfl rfl hm1) rfl ?_
  refine K.GL.det (K.e_move rfl) rfl ?_
  refine K.GL.det (K.e_extract rfl rfl) rfl ?_
  refine K.GL.det (K.e_extract rfl rfl) rfl ?_
  refine K.GL.det (K.e_assign rfl) rfl ?_
  refine K.GL.det (K.e_assign rfl) rfl ?_
  refine K.GL.nil ?_
  refine K.GQ.go ?_
  refine K.GC.seq ?_
  refine K.GC.seq ?_
  refine K.GC.region ?_
  refine K.GL.det (K.e_move rfl) rfl ?_
  refine K.GL.nil ?_
  refine K.GQ.go ?_
  refine K.GC.condB rfl (fun h1 => ?_) (fun h1 => ?_)
  · first
    | exact absurd h1 (by decide)
    | try replace h1 := of_decide_eq_true h1
      refine K.GC.res ?_ (pull_sub hes)
      refine K.GC.pull ?_
      rw [← List.map_append (f := entR)]
      refine K.GC.opened (l := entL e1) (F := [all ((A ++ B).map entR), cl d 62 [.map (some g.mb)], mp g.mb (g.es.map NE.me) g.c]) ?_
      refine K.GC.res (L' := [cl e1.b 33 (encE e1.x e1.a e1.c), rowj e1.a e1.c 1 9 (strs e1.x.sv) e1.junk, all ((A ++ B).map entR), cl d 62 [.map (some g.mb)], mp g.mb (g.es.map NE.me) g.c]) ?_ (Sub.refl _)
      refine K.GC.region ?_
      refine K.GL.det (K.e_move rfl) rfl ?_
      refine K.GL.det (K.e_move rfl) rfl ?_
      refine K.GL.det (K.e_nilCheck rfl) rfl ?_
      refine K.GL.det (K.e_fieldAddr fo33_0 rfl) rfl ?_
      refine K.GL.det (K.e_fieldAddr fo28_4 rfl) rfl ?_
      refine K.GL.store rfl rfl rfl Try.sizeOf4 rfl rfl ?_
      refine K.GL.nil ?_
      refine K.GQ.go ?_
      refine K.GC.seq ?_
      refine K.GC.region ?_
      refine K.GL.det (K.e_move rfl) rfl ?_
      refine K.GL.det (K.e_assign rfl) rfl ?_
      refine K.GL.nil ?_
      refine K.GQ.go ?_
      refine K.GC.ret ?_
      refine K.GQ.ret1 Try.results14 rfl (fun w hT => ?_)
      first
        | (rw [hxe]; exact ⟨g, rfl, hk, (xmod_none hxe).symm, hT.one⟩)
        | (obtain ⟨y, hy1, hy2, hy3⟩ := mod_end hk hes hid hA (x := (fun y => { y with pin := is }) e1.x) hid rfl (fun y => { y with pin := is }) rfl hT
           rw [hxe]; exact ⟨y, rfl, hy1, hy2, hy3⟩)
  · first
    | exact absurd h1 (by decide)
    | try replace h1 := of_decide_eq_false h1
      refine K.GC.skip ?_
      refine K.GQ.go ?_
      refine K.GC.seq ?_
      refine K.GC.region ?_
      refine K.GL.det (K.e_move rfl) rfl ?_
      refine K.GL.det (K.e_assign rfl) rfl ?_
      refine K.GL.nil ?_
      refine K.GQ.go ?_
      refine K.GC.ret ?_
      refine K.GQ.ret1 Try.results14 rfl (fun w hT => ?_)
      first
        | (rw [hxe]; exact ⟨g, rfl, hk, (xmod_none hxe).symm, hT.one⟩)
        | (obtain ⟨y, hy1, hy2, hy3⟩ := mod_end hk hes hid hA (x := (fun y => { y with pin := is }) e1.x) hid rfl (fun y => { y with pin := is }) rfl hT
           rw [hxe]; exact ⟨y, rfl, hy1, hy2, hy3⟩)
theorem fo28_1 : K.fieldOff Try.prog 28 1 = some (3, 1, 1) := by kernel_rfl
/- (*turntable/entry.Index).Class -/
set_option maxHeartbeats 1000000 in
set_option maxRecDepth 100000 in
theorem class_con {d : Nat} {g : IG} (hk : g.Ok) (k : Int) (cls : Int) {w : World} (ho : (IdxR d g).ok w.heap) :
    Calls Try.prog 15 #[.pointer (some ⟨d, 0, none⟩), .int .i64 k, .int .i64 cls] w fun e w' => ∃ y : IG, e = .returned (.bool (xget k g.ents).isSome) ∧ y.Ok ∧ y.ents = xmod k (fun y => { y with cls := cls }) g.ents ∧ Tr w [IdxR d g] w' [IdxR d y] := by
  refine K.enter (args := [_, _, _]) Try.func15 rfl Try.ntmps15 rfl (Disj.one _) (by intro x hx; simp only [List.mem_singleton] at hx; subst hx; exact ho) ?_
  refine K.GC.opened1 ?_
  rcases find_ent k g.es with ⟨hm1, hx1, hno⟩ | ⟨A, e1, B, hes, hid, hA, hm1, hx1⟩
  all_goals have hxe : xget k g.ents = _ := hx1
  all_goals
  refine K.GC.seq ?_
  refine K.GC.region ?_
  refine K.GL.det (K.e_assign rfl) rfl ?_
  refine K.GL.nil ?_
  refine K.GQ.go ?_
  refine K.GC.seq ?_
  refine K.GC.region ?_
  refine K.GL.det (K.e_move rfl) rfl ?_
  refine K.GL.det (K.e_nilCheck rfl) rfl ?_
  refine K.GL.det (K.e_fieldAddr fo62_0 rfl) rfl ?_
  first | refine K.GL.det (K.e_load Try.isAgg60 rfl rfl) rfl ?_ | refine K.GL.det (K.e_load0 Try.isAgg60 rfl (by assumption)) rfl ?_
  refine K.GL.det (K.e_move rfl) rfl ?_
  first | refine K.GL.det (K.e_lookup_none Try.underlying60 Try.underlying2 Try.zeroValue63 rfl rfl hm1) rfl ?_ | refine K.GL.det (K.e_lookup_some Try.underlying60 Try.underlying2 Try.zeroValue63 rfl rfl hm1) rfl ?_
  refine K.GL.det (K.e_move rfl) rfl ?_
  refine K.GL.det (K.e_extract rfl rfl) rfl ?_
  refine K.GL.det (K.e_extract rfl rfl) rfl ?_
  refine K.GL.det (K.e_assign rfl) rfl ?_
  refine K.GL.det (K.e_assign rfl) rfl ?_
  refine K.GL.nil ?_
  refine K.GQ.go ?_
  refine K.GC.seq ?_
  refine K.GC.seq ?_
  refine K.GC.region ?_
  refine K.GL.det (K.e_move rfl) rfl ?_
  refine K.GL.nil ?_
  refine K.GQ.go ?_
  refine K.GC.condB rfl (fun h1 => ?_) (fun h1 => ?_)
  · first
    | exact absurd h1 (by decide)
    | try replace h1 := of_decide_eq_true h1
      refine K.GC.res ?_ (pull_sub hes)
      refine K.GC.pull ?_
      rw [← List.map_append (f := entR)]
      refine K.GC.opened (l := entL e1) (F := [all ((A ++ B).map entR), cl d 62 [.map (some g.mb)], mp g.mb (g.es.map NE.me) g.c]) ?_
      refine K.GC.res (L' := [cl e1.b 33 (encE e1.x e1.a e1.c), rowj e1.a e1.c 1 9 (strs e1.x.sv) e1.junk, all ((A ++ B).map entR), cl d 62 [.map (some g.mb)], mp g.mb (g.es.map NE.me) g.c]) ?_ (Sub.refl _)
      refine K.GC.region ?_
      refine K.GL.det (K.e_move rfl) rfl ?_
      refine K.GL.det (K.e_move rfl) rfl ?_
      refine K.GL.det (K.e_nilCheck rfl) rfl ?_
      refine K.GL.det (K.e_fieldAddr fo33_0 rfl) rfl ?_
      refine K.GL.det (K.e_fieldAddr fo28_1 rfl) rfl ?_
      refine K.GL.store rfl rfl rfl Try.sizeOf3 rfl rfl ?_
      refine K.GL.nil ?_
      refine K.GQ.go ?_
      refine K.GC.seq ?_
      refine K.GC.region ?_
      refine K.GL.det (K.e_move rfl) rfl ?_
      refine K.GL.det (K.e_assign rfl) rfl ?_
      refine K.GL.nil ?_
      refine K.GQ.go ?_
      refine K.GC.ret ?_
      refine K.GQ.ret1 Try.results15 rfl (fun w hT => ?_)
      first
        | (rw [hxe]; exact ⟨g, rfl, hk, (xmod_none hxe).symm, hT.one⟩)
        | (obtain ⟨y, hy1, hy2, hy3⟩ := mod_end hk hes hid hA (x := (fun y => { y with cls := cls }) e1.x) hid rfl (fun y => { y with cls := cls }) rfl hT
           rw [hxe]; exact ⟨y, rfl, hy1, hy2, hy3⟩)
  · first
    | exact absurd h1 (by decide)
    | try replace h1 := of_decide_eq_false h1
      refine K.GC.skip ?_
      refine K.GQ.go ?_
      refine K.GC.seq ?_
      refine K.GC.region ?_
      refine K.GL.det (K.e_move rfl) rfl ?_
      refine K.GL.det (K.e_assign rfl) rfl ?_
      refine K.GL.nil ?_
      refine K.GQ.go ?_
      refine K.GC.ret ?_
      refine K.GQ.ret1 Try.results15 rfl (fun w hT => ?_)
      first
        | (rw [hxe]; exact ⟨g, rfl, hk, (xmod_none hxe).symm, hT.one⟩)
        | (obtain ⟨y, hy1, hy2, hy3⟩ := mod_end hk hes hid hA (x := (fun y => { y with cls := cls }) e1.x) hid rfl (fun y => { y with cls := cls }) rfl hT
           rw [hxe]; exact ⟨y, rfl, hy1, hy2, hy3⟩)
theorem fo33_2 : K.fieldOff Try.prog 33 2 = some (2, 10, 1) := by kernel_rfl
theorem fo33_3 : K.fieldOff Try.prog 33 3 = some (3, 11, 1) := by kernel_rfl
theorem fo33_4 : K.fieldOff Try.prog 33 4 = some (3, 12, 1) := by kernel_rfl
/- (*turntable/entry.Index).Move -/
set_option maxHeartbeats 1000000 in
set_option maxRecDepth 100000 in
theorem move_con {d : Nat} {g : IG} (hk : g.Ok) (k : Int) (seq at_ size : Int) {w : World} (ho : (IdxR d g).ok w.heap) :
    Calls Try.prog 16 #[.pointer (some ⟨d, 0, none⟩), .int .i64 k, .int .i64 seq, .int .i64 at_, .int .i64 size] w fun e w' => ∃ y : IG, e = .returned (.bool (xget k g.ents).isSome) ∧ y.Ok ∧ y.ents = xmod k (fun y => { y with seq := seq, at_ := at_, size := size }) g.ents ∧ Tr w [IdxR d g] w' [IdxR d y] := by
  refine K.enter (args := [_, _, _, _, _]) Try.func16 rfl Try.ntmps16 rfl (Disj.one _) (by intro x hx; simp only [List.mem_singleton] at hx; subst hx; exact ho) ?_
  refine K.GC.opened1 ?_
  rcases find_ent k g.es with ⟨hm1, hx1, hno⟩ | ⟨A, e1, B, hes, hid, hA, hm1, hx1⟩
  all_goals have hxe : xget k g.ents = _ := hx1
  all_goals
  refine K.GC.seq ?_
  refine K.GC.region ?_
  refine K.GL.det (K.e_assign rfl) rfl ?_
  refine K.GL.nil ?_
  refine K.GQ.go ?_
  refine K.GC.seq ?_
  refine K.GC.region ?_
  refine K.GL.det (K.e_move rfl) rfl ?_
  refine K.GL.det (K.e_nilCheck rfl) rfl ?_
  refine K.GL.det (K.e_fieldAddr fo62_0 rfl) rfl ?_
  first | refine K.GL.det (K.e_load Try.isAgg60 rfl rfl) rfl ?_ | refine K.GL.det (K.e_load0 Try.isAgg60 rfl (by assumption)) rfl ?_
  refine K.GL.det (K.e_move rfl) rfl ?_
  first | refine K.GL.det (K.e_lookup_none Try.underlying60 Try.underlying2 Try.zeroValue63 rfl rfl hm1) rfl ?_ | refine K.GL.det (K.e_lookup_some Try.underlying60 Try.underlying2 Try.zeroValue63 rfl rfl hm1) rfl ?_
  refine K.GL.det (K.e_move rfl) rfl ?_
  refine K.GL.det (K.e_extract rfl rfl) rfl ?_
  refine K.GL.det (K.e_extract rfl rfl) rfl ?_
  refine K.GL.det (K.e_assign rfl) rfl ?_
  refine K.GL.det (K.e_assign rfl) rfl ?_
  refine K.GL.nil ?_
  refine K.GQ.go ?_
  refine K.GC.seq ?_
  refine K.GC.seq ?_
  refine K.GC.region ?_
  refine K.GL.det (K.e_move rfl) rfl ?_
  refine K.GL.nil ?_
  refine K.GQ.go ?_
  refine K.GC.condB rfl (fun h1 => ?_) (fun h1 => ?_)
  · first
    | exact absurd h1 (by decide)
    | try replace h1 := of_decide_eq_true h1
      refine K.GC.res ?_ (pull_sub hes)
      refine K.GC.pull ?_
      rw [← List.map_append (f := entR)]
      refine K.GC.opened (l := entL e1) (F := [all ((A ++ B).map entR), cl d 62 [.map (some g.mb)], mp g.mb (g.es.map NE.me) g.c]) ?_
      refine K.GC.res (L' := [cl e1.b 33 (encE e1.x e1.a e1.c), rowj e1.a e1.c 1 9 (strs e1.x.sv) e1.junk, all ((A ++ B).map entR), cl d 62 [.map (some g.mb)], mp g.mb (g.es.map NE.me) g.c]) ?_ (Sub.refl _)
      refine K.GC.region ?_
      refine K.GL.det (K.e_move rfl) rfl ?_
      refine K.GL.det (K.e_move rfl) rfl ?_
      refine K.GL.det (K.e_move rfl) rfl ?_
      refine K.GL.det (K.e_move rfl) rfl ?_
      refine K.GL.det (K.e_move rfl) rfl ?_
      refine K.GL.det (K.e_move rfl) rfl ?_
      refine K.GL.det (K.e_nilCheck rfl) rfl ?_
      refine K.GL.det (K.e_fieldAddr fo33_2 rfl) rfl ?_
      refine K.GL.store rfl rfl rfl Try.sizeOf2 rfl rfl ?_
      refine K.GL.det (K.e_nilCheck rfl) rfl ?_
      refine K.GL.det (K.e_fieldAddr fo33_3 rfl) rfl ?_
      refine K.GL.store rfl rfl rfl Try.sizeOf3 rfl rfl ?_
      refine K.GL.det (K.e_nilCheck rfl) rfl ?_
      refine K.GL.det (K.e_fieldAddr fo33_4 rfl) rfl ?_
      refine K.GL.store rfl rfl rfl Try.sizeOf3 rfl rfl ?_
      refine K.GL.nil ?_
      refine K.GQ.go ?_
      refine K.GC.seq ?_
      refine K.GC.region ?_
      refine K.GL.det (K.e_move rfl) rfl ?_
      refine K.GL.det (K.e_assign rfl) rfl ?_
      refine K.GL.nil ?_
      refine K.GQ.go ?_
      refine K.GC.ret ?_
      refine K.GQ.ret1 Try.results16 rfl (fun w hT => ?_)
      first
        | (rw [hxe]; exact ⟨g, rfl, hk, (xmod_none hxe).symm, hT.one⟩)
        | (obtain ⟨y, hy1, hy2, hy3⟩ := mod_end hk hes hid hA (x := (fun y => { y with seq := seq, at_ := at_, size := size }) e1.x) hid rfl (fun y => { y with seq := seq, at_ := at_, size := size }) rfl hT
           rw [hxe]; exact ⟨y, rfl, hy1, hy2, hy3⟩)
  · first
    | exact absurd h1 (by decide)
    | try replace h1 := of_decide_eq_false h1
      refine K.GC.skip ?_
      refine K.GQ.go ?_
      refine K.GC.seq ?_
      refine K.GC.region ?_
      refine K.GL.det (K.e_move rfl) rfl ?_
      refine K.GL.det (K.e_assign rfl) rfl ?_
      refine K.GL.nil ?_
      refine K.GQ.go ?_
      refine K.GC.ret ?_
      refine K.GQ.ret1 Try.results16 rfl (fun w hT => ?_)
      first
        | (rw [hxe]; exact ⟨g, rfl, hk, (xmod_none hxe).symm, hT.one⟩)
        | (obtain ⟨y, hy1, hy2, hy3⟩ := mod_end hk hes hid hA (x := (fun y => { y with seq := seq, at_ := at_, size := size }) e1.x) hid rfl (fun y => { y with seq := seq, at_ := at_, size := size }) rfl hT
           rw [hxe]; exact ⟨y, rfl, hy1, hy2, hy3⟩)
/- (*turntable/entry.Index).Del -/
set_option maxHeartbeats 1000000 in
set_option maxRecDepth 100000 in
theorem del_con {d : Nat} {g : IG} (hk : g.Ok) (k : Int) {w : World} (ho : (IdxR d g).ok w.heap) :
    Calls Try.prog 13 #[.pointer (some ⟨d, 0, none⟩), .int .i64 k] w fun e w' => ∃ y : IG, e = .returned (.bool (xget k g.ents).isSome) ∧ y.Ok ∧ y.ents = xdel k g.ents ∧ Tr w [IdxR d g] w' [IdxR d y] := by
  refine K.enter (args := [_, _]) Try.func13 rfl Try.ntmps13 rfl (Disj.one _) (by intro x hx; simp only [List.mem_singleton] at hx; subst hx; exact ho) ?_
  refine K.GC.opened1 ?_
  rcases find_ent k g.es with ⟨hm1, hx1, hno⟩ | ⟨A, e1, B, hes, hid, hA, hm1, hx1⟩
  all_goals have hxe : xget k g.ents = _ := hx1
  all_goals
  refine K.GC.seq ?_
  refine K.GC.region ?_
  refine K.GL.det (K.e_assign rfl) rfl ?_
  refine K.GL.nil ?_
  refine K.GQ.go ?_
  refine K.GC.seq ?_
  refine K.GC.region ?_
  refine K.GL.det (K.e_move rfl) rfl ?_
  refine K.GL.det (K.e_nilCheck rfl) rfl ?_
  refine K.GL.det (K.e_fieldAddr fo62_0 rfl) rfl ?_
  first | refine K.GL.det (K.e_load Try.isAgg60 rfl rfl) rfl ?_ | refine K.GL.det (K.e_load0 Try.isAgg60 rfl (by assumption)) rfl ?_
  refine K.GL.det (K.e_move rfl) rfl ?_
  first | refine K.GL.det (K.e_lookup_none Try.underlying60 Try.underlying2 Try.zeroValue63 rfl rfl hm1) rfl ?_ | refine K.GL.det (K.e_lookup_some Try.underlying60 Try.underlying2 Try.zeroValue63 rfl rfl hm1) rfl ?_
  refine K.GL.det (K.e_move rfl) rfl ?_
  refine K.GL.det (K.e_extract rfl rfl) rfl ?_
  refine K.GL.det (K.e_extract rfl rfl) rfl ?_
  refine K.GL.det (K.e_assign rfl) rfl ?_
  refine K.GL.det (K.e_assign rfl) rfl ?_
  refine K.GL.nil ?_
  refine K.GQ.go ?_
  refine K.GC.seq ?_
  refine K.GC.region ?_
  refine K.GL.det (K.e_move rfl) rfl ?_
  refine K.GL.det (K.e_nilCheck rfl) rfl ?_
  refine K.GL.det (K.e_fieldAddr fo62_0 rfl) rfl ?_
  first | refine K.GL.det (K.e_load Try.isAgg60 rfl rfl) rfl ?_ | refine K.GL.det (K.e_load0 Try.isAgg60 rfl (by assumption)) rfl ?_
  refine K.GL.det (K.e_move rfl) rfl ?_
  refine K.GL.delete Try.underlying60 Try.underlying2 rfl rfl ?_
  refine K.GL.nil ?_
  refine K.GQ.go ?_
  refine K.GC.seq ?_
  refine K.GC.region ?_
  refine K.GL.det (K.e_move rfl) rfl ?_
  refine K.GL.det (K.e_assign rfl) rfl ?_
  refine K.GL.nil ?_
  refine K.GQ.go ?_
  refine K.GC.ret ?_
  refine K.GQ.ret1 Try.results13 rfl (fun w hT => ?_)
  obtain ⟨y, hy1, hy2, hy3⟩ := del_end hk hT
  rw [hxe]; exact ⟨y, rfl, hy1, hy2, hy3⟩
theorem fo28_0 : K.fieldOff Try.prog 28 0 = some (2, 0, 1) := by kernel_rfl
/- (*turntable/entry.Index).Put -/
set_option maxHeartbeats 1000000 in
set_option maxRecDepth 100000 in
theorem put_con {d : Nat} {g : IG} (hk : g.Ok) (x : EX) {a0 : Option Addr} {c0 : Nat} {w : World} (ho : (IdxR d g).ok w.heap) (hS : Sl w 1 a0 x.sv.length (strs x.sv)) (hfp : 0 < x.sv.length → ¬ (IdxR d g).fp (bk a0)) (hi : I64 x.id) (hs : x.sv.length ≤ 9000) :
    Calls Try.prog 17 #[.pointer (some ⟨d, 0, none⟩), .agg (encE x a0 c0).toArray] w fun e w' => ∃ y : IG, e = .returned (.bool (xget x.id g.ents).isSome) ∧ y.Ok ∧ y.ents = xput x g.ents ∧ Tr w [IdxR d g] w' [IdxR d y] := by
  refine K.enter (args := [_, _]) Try.func17 rfl Try.ntmps17 rfl (Disj.one _) (by intro x hx; simp only [List.mem_singleton] at hx; subst hx; exact ho) ?_
  refine K.GC.opened1 ?_
  rcases find_ent x.id g.es with ⟨hm1, hx1, hno⟩ | ⟨A, e1, B, hes, hid, hA, hm1, hx1⟩
  all_goals have hxe : xget x.id g.ents = _ := hx1
  all_goals
  refine K.GC.seq ?_
  refine K.GC.region ?_
  refine K.GL.box rfl rfl rfl (fun b3 => ?_)
  refine K.GL.det (K.e_assign rfl) rfl ?_
  refine K.GL.nil ?_
  refine K.GQ.go ?_
  refine K.GC.seq ?_
  refine K.GC.drawn 13 [[], [0], [0, 1], [0, 1, 2], [], [4], [4, 5], [0, 1, 2, 3, 4, 5, 6], [0, 1, 2, 3, 4, 5, 6, 7], [0, 1, 2, 3, 4, 5, 6, 7, 8], [0, 1, 2, 3, 4, 5, 6, 7, 8], [0, 1, 2, 3, 4, 5, 6, 7, 8, 9], [0, 1, 2, 3, 4, 5, 6, 7, 8, 9, 10, 11]] [[], [0], [1], [2], [], [4], [5], [3, 6], [7], [8], [8], [9], [10]] [0, 3, 4, 18, 19, 20, 21, 22, 23, 24, 25, 26, 27] (by kernel_rfl) (by kernel_rfl) rfl ?_
  refine K.DW.det rfl (fun vs => K.e_move rfl) ?_
  refine K.DW.det rfl (fun vs => K.e_nilCheck rfl) ?_
  refine K.DW.det rfl (fun vs => K.e_fieldAddr fo62_0 rfl) ?_
  first | refine K.DW.det rfl (fun vs => K.e_load Try.isAgg60 rfl rfl) ?_ | refine K.DW.det rfl (fun vs => K.e_load0 Try.isAgg60 rfl (by assumption)) ?_
  refine K.DW.det rfl (fun vs => K.e_fieldAddr fo33_0 rfl) ?_
  refine K.DW.det rfl (fun vs => K.e_fieldAddr fo28_0 rfl) ?_
  first | refine K.DW.det rfl (fun vs => K.e_load Try.isAgg2 rfl rfl) ?_ | refine K.DW.det rfl (fun vs => K.e_load0 Try.isAgg2 rfl (by assumption)) ?_
  first | refine K.DW.det rfl (fun vs => K.e_lookup_none Try.underlying60 Try.underlying2 Try.zeroValue63 rfl rfl hm1) ?_ | refine K.DW.det rfl (fun vs => K.e_lookup_some Try.underlying60 Try.underlying2 Try.zeroValue63 rfl rfl hm1) ?_
  refine K.DW.det rfl (fun vs => K.e_move rfl) ?_
  refine K.DW.det rfl (fun vs => K.e_extract rfl rfl) ?_
  refine K.DW.det rfl (fun vs => K.e_extract rfl rfl) ?_
  refine K.DW.det rfl (fun vs => K.e_assign rfl) ?_
  refine K.DW.det rfl (fun vs => K.e_assign rfl) ?_
  refine K.DW.fin0 rfl (fun vs => ?_)
  refine K.GL.keep [0, 3, 4, 6, 18, 19, 20, 21, 22, 23, 24, 25, 26, 27] rfl ?_
  clear vs
  refine K.GL.nil ?_
  refine K.GQ.go ?_
  refine K.GC.seq ?_
  refine K.GC.region ?_
  refine K.GL.det (K.e_loads Try.isAgg33 Try.sizeOf33 rfl rfl) rfl ?_
  refine gl_own (x := x) Try.call38 rfl (fun w hT => sl_stay0 hS hT hfp) hs rfl (fun a19 c19 => ?_)
  refine K.GL.store rfl rfl rfl Try.sizeOf33 rfl rfl ?_
  refine K.GL.nil ?_
  refine K.GQ.go ?_
  refine K.GC.seq ?_
  refine K.GC.drawn 7 [[], [0], [0, 1], [0, 1, 2], [], [4], [4, 5], [0, 1, 2, 3, 4, 5, 6]] [[], [0], [1], [2], [], [4], [5]] [0, 3, 4, 6, 27] (by kernel_rfl) (by kernel_rfl) rfl ?_
  refine K.DW.det rfl (fun vs => K.e_move rfl) ?_
  refine K.DW.det rfl (fun vs => K.e_nilCheck rfl) ?_
  refine K.DW.det rfl (fun vs => K.e_fieldAddr fo62_0 rfl) ?_
  first | refine K.DW.det rfl (fun vs => K.e_load Try.isAgg60 rfl rfl) ?_ | refine K.DW.det rfl (fun vs => K.e_load0 Try.isAgg60 rfl (by assumption)) ?_
  refine K.DW.det rfl (fun vs => K.e_fieldAddr fo33_0 rfl) ?_
  refine K.DW.det rfl (fun vs => K.e_fieldAddr fo28_0 rfl) ?_
  first | refine K.DW.det rfl (fun vs => K.e_load Try.isAgg2 rfl rfl) ?_ | refine K.DW.det rfl (fun vs => K.e_load0 Try.isAgg2 rfl (by assumption)) ?_
  refine K.DW.fin0 rfl (fun vs => ?_)
  refine K.GL.keep [3, 4, 6, 23, 26, 27] rfl ?_
  clear vs
  refine K.GL.mapUpdate Try.underlying60 Try.underlying2 rfl rfl rfl ?_
  refine K.GL.nil ?_
  refine K.GQ.go ?_
  refine K.GC.seq ?_
  refine K.GC.region ?_
  refine K.GL.det (K.e_move rfl) rfl ?_
  refine K.GL.det (K.e_assign rfl) rfl ?_
  refine K.GL.nil ?_
  refine K.GQ.go ?_
  refine K.GC.ret ?_
  refine K.GQ.ret1 Try.results17 rfl (fun w hT => ?_)
  obtain ⟨y, hy1, hy2, hy3⟩ := put_end (x := x) hk hi hs hT
  rw [hxe]; exact ⟨y, rfl, hy1, hy2, hy3⟩
end Go.Proofs.Ytcphpcjcbmennaa
