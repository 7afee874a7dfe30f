/- What a Boot of a device gives, whatever it holds, and whatever is chosen, and hurt. -/
import Derived.Test.YtdbedajaapamhaaGreatSuD
namespace Go.Proofs.YtdbedajaapamhaaGreat
open Go Go.K
set_option linter.unusedVariables false
set_option linter.unusedSimpArgs false
attribute [local irreducible] Calls Ev GL GC GQ GR Code.wp
theorem Tr.wildly {w w' : World} {l : List Res} (h : Tr w [wildR] w' l) : Tr w [wildR] w' (wildR :: l) :=
  ⟨h.os, h.tape, h.output, fun hn => absurd (hn wildR List.mem_cons_self) (by decide), h.size, h.frame, h.disj.cons (fun s hs b hb => hb.elim), fun r hr => (List.mem_cons.1 hr).elim (fun e => by subst e; trivial) (h.ok r), fun r hr b hb => (List.mem_cons.1 hr).elim (fun e => by subst e; exact hb.elim) (fun h2 => h.new r h2 b hb)⟩
theorem disjW (r : Res) : Disj [r, wildR] := (Disj.one wildR).cons fun s hs b h1 h2 => by
  simp only [List.mem_singleton] at hs
  subst hs
  exact h2.elim
theorem okW {r : Res} {h : Array Obj} (ho : r.ok h) : ∀ s ∈ [r, wildR], s.ok h := fun s hs => by
  rcases List.mem_cons.1 hs with rfl | h2
  · exact ho
  · simp only [List.mem_singleton] at h2
    subst h2
    trivial
theorem Tr.calmedL {w w' : World} {r : Res} {l0 l : List Res} (h : Tr w (r :: l0) w' (r :: l)) (ho : r.ok w.heap) (hp : Precise r) (hw : r.wild = false) : Tr w l0 w' l := by
  have hn2 : NW l0 → NW (r :: l0) := fun hn s hs => by
    rcases List.mem_cons.1 hs with rfl | h2
    · exact hw
    · exact hn s h2
  refine ⟨h.os, h.tape, h.output, fun hn => ⟨(h.ahead (hn2 hn)).1, fun s hs => (h.ahead (hn2 hn)).2 s (List.mem_cons_of_mem _ hs)⟩, h.size, fun b hb hf => ?_, h.disj.tail, fun s hs => h.ok s (List.mem_cons_of_mem _ hs), fun s hs b hb => ?_⟩
  · by_cases hf2 : r.fp b
    · exact hp _ _ ho (h.ok r List.mem_cons_self) b hf2
    · exact h.frame b hb (fun s hs => by
        rcases List.mem_cons.1 hs with rfl | h2
        · exact hf2
        · exact hf s h2)
  · rcases h.new s (List.mem_cons_of_mem _ hs) b hb with h2 | ⟨t, ht, hb2⟩
    · exact .inl h2
    · rcases List.mem_cons.1 ht with rfl | h3
      · exact absurd hb (fun hb => h.disj.head hs b hb2 hb)
      · exact .inr ⟨t, h3, hb2⟩
section
variable {ops : Array Oper} {Q : Exit → Act → World → Prop} {N : Nat} {U : Env} {w0 : World} {L0 L F : List Res} {ty : TypeId} {rest : List Oper} {pos : String} {after : Array Edge} {xs : List Operand} {tys : Array TypeId} {t : Tmp}
theorem gl_keys {b : Nat} (hf : ∀ args w, (callFunc 46 args).run Tryz.prog w = .ok (.enter 46 args) w) (hx : opvs U xs = some [.map (some b)]) (hd : Nat.ble (t + 1) N = true)
    (hr : ∀ B, GL Tryz.prog ops Q rest N ((t, .func (.func 57) #[] #[.pointer (some ⟨B, 0, none⟩)]) :: U) w0 L0 (cl B 58 [.map (some b)] :: L)) : GL Tryz.prog ops Q (⟨some t, .call ⟨.value (.func 46), xs.toArray, tys⟩, ty, pos, after, Option.none⟩ :: rest) N U w0 L0 L :=
  GL.callM (α := Nat) (l := []) (Pv := fun B v => v = .func (.func 57) #[] #[.pointer (some ⟨B, 0, none⟩)]) (l' := fun B => [cl B 58 [.map (some b)]]) hf hx (Sub.refl _)
    (fun w hT => (calls_keys Tryz.keysA (some b) w).mono fun e w' ⟨he, hw⟩ => ⟨w.heap.size, _, he, rfl, by rw [hw]; exact Tr.fresh w _⟩) hd fun B v hv => by subst hv; exact hr B
theorem gl_sorted {b B c : Nat} {l : List ME} (hf : ∀ args w, (callFunc 45 args).run Tryz.prog w = .ok (.enter 45 args) w) (hx : opvs U xs = some [.func (.func 57) #[] #[.pointer (some ⟨B, 0, none⟩)]]) [hB : HasC L B 58 [.map (some b)]] [hM : HasM L b l c] [hW : Pk L wildR F] (hok : MOk l c) (hl : l.length ≤ 17592186044416) (hd : Nat.ble (t + 1) N = true)
    (hr : ∀ a cap, GL Tryz.prog ops Q rest N ((t, .slice a l.length cap) :: U) w0 L0 (wildR :: row a cap 1 3 ((isort (l.map ME.k)).map (Value.int .i64)) :: F)) : GL Tryz.prog ops Q (⟨some t, .call ⟨.value (.func 45), xs.toArray, tys⟩, ty, pos, after, Option.none⟩ :: rest) N U w0 L0 L :=
  GL.callM (α := Option Addr × Nat) (l := [wildR]) (Pv := fun x v => v = .slice x.1 l.length x.2) (l' := fun x => [wildR, row x.1 x.2 1 3 ((isort (l.map ME.k)).map (Value.int .i64))]) hf hx hW.out
    (fun w hT => (calls_sorted Tryz.keysA Tryz.sortedA Tryz.sortA rfl (Tryz.call56) (Tryz.call57) (Tr.atM (b := b) hT) (Tr.at (b := B) hT) Tryz.underlying3 hok hl).mono fun e w' ⟨a, cap, he, ht⟩ => ⟨(a, cap), _, he, rfl, Tr.wildly ht⟩) hd fun x v hv => by subst hv; exact hr x.1 x.2
end

/- (*turntable/dev.Dev).Loose -/
set_option maxHeartbeats 1000000 in
set_option maxRecDepth 100000 in
theorem loose_con {d : Nat} {g : DG} (hk : g.Ok) {w : World} (ho : (DevR d g).ok w.heap) :
    Calls Tryz.prog 22 #[.pointer (some ⟨d, 0, none⟩)] w fun e w' => ∃ a c, e = .returned (.slice a g.v.list.length c) ∧ Tr w [wildR] w' [wildR, row a c 1 3 (ints g.v.list)] := by
  have hll : g.v.list.length ≤ g.kept.length := by
    have := List.length_filter_le (fun i => (g.v.loose i).isSome) (List.range g.v.kept.length)
    rw [List.length_range] at this; exact this
  have hle := list_eq hk
  have hlen : (g.es.map SE.me).length ≤ 17592186044416 := by rw [List.length_map, ← hle.2]; have := hk.n2; omega
  refine K.enter (args := [_]) Tryz.func22 rfl Tryz.ntmps22 rfl (disjW _) (okW ho) ?_
  refine K.GC.opened (l := g.L d) (F := [wildR]) ?_
  refine K.GC.res (L' := [cl d 60 g.str, cl g.kb 69 (g.kept.flatMap sv), mp g.mb (g.es.map SE.me) g.c, all (g.es.map secR), wildR]) ?_ (K.Sub.refl _)
  refine K.GC.seq ?_
  refine K.GC.region ?_
  refine K.GL.det (K.e_assign rfl) rfl ?_
  refine K.GL.nil ?_
  refine K.GQ.go ?_
  refine K.GC.seq ?_
  refine K.GC.region ?_
  refine K.GL.det (K.e_move rfl) rfl ?_
  refine K.GL.det (K.e_nilCheck rfl) rfl ?_
  refine K.GL.det (K.e_fieldAddr fo60_1 rfl) rfl ?_
  first | refine K.GL.det (K.e_load Tryz.isAgg58 rfl rfl) rfl ?_ | refine K.GL.det (K.e_load0 Tryz.isAgg58 rfl (by assumption)) rfl ?_
  refine gl_keys Tryz.call46 rfl rfl (fun B => ?_)
  refine gl_sorted Tryz.call45 rfl hk.mok hlen rfl (fun a1 c1 => ?_)
  refine K.GL.det (K.e_assign rfl) rfl ?_
  refine K.GL.nil ?_
  refine K.GQ.go ?_
  refine K.GC.ret ?_
  refine K.GQ.ret1 Tryz.results22 rfl (fun w hT => ?_)
  refine ⟨a1, c1, by rw [hle.2]; simp, ?_⟩
  rw [hle.1] at hT
  exact Tr.calmedL (Tr.closed (l := g.L d) (F := [wildR, row a1 c1 1 3 (ints g.v.list)]) (hT.sub (by show K.Sub [cl d 60 g.str, cl g.kb 69 (g.kept.flatMap sv), mp g.mb (g.es.map SE.me) g.c, all (g.es.map secR), wildR, row a1 c1 1 3 (ints g.v.list)] _; exact K.sb))) ho (DevR.precise d g) (DevR.wild d g)

theorem Sub.five (k b d m a r s : Res) : Sub [d, k, m, a, r, s] [k, b, d, m, a, r, s] := (Sub.cons d (Sub.cons k (Sub.tail b [m, a, r, s]))).trans (Sub.front (L := [k, b, d, m, a, r, s]) (i := 2) rfl)
def DS.keptL (s : DS) (ks : List Bool) : Nat → List Sec
  | 0 => s.kept
  | k + 1 => match s.list[k]?, ks[k]? with
    | some i, some true => match s.loose i with
      | some y => (s.keptL ks k).set i y
      | none => s.keptL ks k
    | _, _ => s.keptL ks k
theorem keptL_length (s : DS) (ks : List Bool) : ∀ k, (s.keptL ks k).length = s.kept.length
  | 0 => rfl
  | k + 1 => by
    have ih := keptL_length s ks k
    unfold DS.keptL
    repeat' split
    all_goals simp [ih]
theorem keptL_yes {s : DS} {ks : List Bool} {k i : Nat} {y : Sec} (h1 : s.list[k]? = some i) (h2 : ks[k]? = some true) (h3 : s.loose i = some y) : s.keptL ks (k + 1) = (s.keptL ks k).set i y := by rw [DS.keptL, h1, h2]; simp only [h3]
theorem keptL_no {s : DS} {ks : List Bool} {k : Nat} (h2 : ks[k]? ≠ some true) : s.keptL ks (k + 1) = s.keptL ks k := by
  rw [DS.keptL]
  split
  · rename_i h3; exact absurd h3 h2
  · rfl
structure HX where
  which : Int
  at_ : Int
  bits : Nat
def encH (x : HX) : List Value := [.int .i64 x.which, .int .i64 x.at_, .int .u32 (x.bits : Int)]
theorem encH_len (x : HX) : (encH x).length = 3 := rfl
def hits (l : List Nat) (ks : List Bool) (h : HX) : Prop := 0 ≤ h.which ∧ h.which < l.length ∧ h.which < ks.length ∧ ks[h.which.toNat]? = some true ∧ 0 ≤ h.at_ ∧ h.at_ < 512
instance (l : List Nat) (ks : List Bool) (h : HX) : Decidable (hits l ks h) := by unfold hits; infer_instance
def hurt1 (l : List Nat) (ks : List Bool) (kept : List Sec) (h : HX) : List Sec :=
  if hits l ks h then match l[h.which.toNat]? with
    | some i => match kept[i]? with
      | some x => kept.set i (turnS x h.at_.toNat h.bits)
      | none => kept
    | none => kept
  else kept
theorem hurt1_length (l : List Nat) (ks : List Bool) (kept : List Sec) (h : HX) : (hurt1 l ks kept h).length = kept.length := by
  unfold hurt1
  repeat' split
  all_goals simp
def DS.hurts (s : DS) (ks : List Bool) (hs : List HX) : List Sec := hs.foldl (hurt1 s.list ks) (s.keptL ks s.list.length)
theorem hurts_length (s : DS) (ks : List Bool) (hs : List HX) : (s.hurts ks hs).length = s.kept.length := by
  unfold DS.hurts
  have : ∀ (hs : List HX) (k : List Sec), (hs.foldl (hurt1 s.list ks) k).length = k.length := by
    intro hs
    induction hs with
    | nil => intro k; rfl
    | cons h hs ih => intro k; rw [List.foldl_cons, ih, hurt1_length]
  rw [this, keptL_length]
theorem hurts_next (s : DS) (ks : List Bool) {hs : List HX} {j : Nat} {h : HX} (hj : hs[j]? = some h) : s.hurts ks (hs.take (j + 1)) = hurt1 s.list ks (s.hurts ks (hs.take j)) h := by
  unfold DS.hurts
  rw [List.take_add_one, hj, Option.toList_some, List.foldl_append]
  rfl
def DS.boot (s : DS) (ks : List Bool) (hs : List HX) : DS := { s with kept := s.hurts ks hs, loose := fun _ => none, down := false, cut := -1 }
theorem boot_end {g : DG} {d : Nat} {ks : List Bool} {hs : List HX} {w0 w : World} {L0 : List Res} {r1 r2 : Res} (hk : g.Ok)
    (hT : Tr w0 L0 w (cl d 60 [.slice (some ⟨g.kb, 0, none⟩) g.kept.length g.kept.length, .map (some g.mb), .bool false, .int .i64 g.done, .int .i64 (-1)] :: cl g.kb 69 ((g.v.hurts ks hs).flatMap sv) :: mp g.mb [] g.c :: r1 :: r2 :: [wildR])) :
    ∃ x : DG, x.Ok ∧ x.v = g.v.boot ks hs ∧ Tr w0 L0 w [DevR d x, wildR] := by
  have hl := hurts_length g.v ks hs
  have hl2 : (g.v.hurts ks hs).length = g.kept.length := hl
  refine ⟨{ g with kept := g.v.hurts ks hs, es := [], down := false, cut := -1 }, ⟨⟨by simp, by simp, by simp, by simp⟩, by simp, by simp only [hl2]; exact hk.n1, by simp only [hl2]; exact hk.n2, by simp only [I64]; omega⟩, rfl, ?_⟩
  have h1 : Tr w0 L0 w [cl d 60 [.slice (some ⟨g.kb, 0, none⟩) g.kept.length g.kept.length, .map (some g.mb), .bool false, .int .i64 g.done, .int .i64 (-1)], cl g.kb 69 ((g.v.hurts ks hs).flatMap sv), mp g.mb [] g.c, wildR] := hT.sub K.sb
  have h3 : Tr w0 L0 w (all [] :: _) := Tr.closed (l := []) h1
  have h4 : Tr w0 L0 w ([cl d 60 [.slice (some ⟨g.kb, 0, none⟩) g.kept.length g.kept.length, .map (some g.mb), .bool false, .int .i64 g.done, .int .i64 (-1)], cl g.kb 69 ((g.v.hurts ks hs).flatMap sv), mp g.mb [] g.c, all []] ++ [wildR]) := h3.sub (by show K.Sub [cl d 60 [.slice (some ⟨g.kb, 0, none⟩) g.kept.length g.kept.length, .map (some g.mb), .bool false, .int .i64 g.done, .int .i64 (-1)], cl g.kb 69 ((g.v.hurts ks hs).flatMap sv), mp g.mb [] g.c, all [], wildR] _; exact K.sb)
  have e : ({ g with kept := g.v.hurts ks hs, es := [], down := false, cut := -1 } : DG).L d = [cl d 60 [.slice (some ⟨g.kb, 0, none⟩) g.kept.length g.kept.length, .map (some g.mb), .bool false, .int .i64 g.done, .int .i64 (-1)], cl g.kb 69 ((g.v.hurts ks hs).flatMap sv), mp g.mb [] g.c, all []] := by
    simp only [DG.L, DG.str, hl2, List.map_nil]
  unfold DevR
  rw [e]
  exact Tr.closed h4
theorem list_spec {g : DG} (hk : g.Ok) {k i : Nat} (h : g.v.list[k]? = some i) : i < g.kept.length ∧ ∃ y, sfind i g.es = some y ∧ ∃ e ∈ g.es, e.k = i ∧ e.y = y ∧ mfind (i : Int) (g.es.map SE.me) = some (.pointer (some ⟨e.b, 0, none⟩)) := by
  have hm := List.mem_of_getElem? h
  have h1 := List.mem_filter.1 hm
  have h2 : (sfind i g.es).isSome = true := h1.2
  refine ⟨List.mem_range.1 h1.1, ?_⟩
  cases hf : sfind i g.es with
  | none => rw [hf] at h2; simp at h2
  | some y => exact ⟨y, rfl, mfind_some hf⟩
section
variable {ops : Array Oper} {Q : Exit → Act → World → Prop} {N : Nat} {U : Env} {w0 : World} {L0 L F F2 : List Res} {ty : TypeId} {rest : List Oper} {pos : String} {after : Array Edge} {d : Nat} {g : DG} {xs : List Operand} {tys : Array TypeId} {t : Tmp}
theorem gl_loose (hf : ∀ args w, (callFunc 22 args).run Tryz.prog w = .ok (.enter 22 args) w) (hx : opvs U xs = some [.pointer (some ⟨d, 0, none⟩)]) [hp : Pick L d g F] [hW : Pk L wildR F2] (hk : g.Ok) (hd : Nat.ble (t + 1) N = true)
    (hr : ∀ a c, GL Tryz.prog ops Q rest N ((t, .slice a g.v.list.length c) :: U) w0 L0 (wildR :: row a c 1 3 (ints g.v.list) :: F2)) : GL Tryz.prog ops Q (⟨some t, .call ⟨.value (.func 22), xs.toArray, tys⟩, ty, pos, after, Option.none⟩ :: rest) N U w0 L0 L :=
  GL.callM (α := Option Addr × Nat) (l := [wildR]) (Pv := fun x v => v = .slice x.1 g.v.list.length x.2) (l' := fun x => [wildR, row x.1 x.2 1 3 (ints g.v.list)]) hf hx hW.out
    (fun w hT => (loose_con hk (hT.ok _ hp.mem)).mono fun e w' ⟨a, c, he, ht⟩ => ⟨(a, c), _, he, rfl, ht⟩) hd fun x v hv => by subst hv; exact hr x.1 x.2
end


theorem get_bool {ks : List Bool} {n x : Nat} (h : x < ks.length) (hn : n = x) : (ks.map Value.bool)[n]? = some (.bool ((ks[x]?).getD false)) := by
  subst hn
  rw [List.getElem?_map, List.getElem?_eq_getElem h]; rfl
theorem get_true {ks : List Bool} {x : Nat} (h : (ks[x]?).getD false = true) : ks[x]? = some true := by
  cases hx : ks[x]? with
  | none => rw [hx] at h; simp at h
  | some b => rw [hx] at h; simp only [Option.getD_some] at h; rw [h]
theorem get_false {ks : List Bool} {x : Nat} (h : (ks[x]?).getD false = false) : ks[x]? ≠ some true := fun hx => by rw [hx] at h; simp at h
theorem get_out {ks : List Bool} {x : Nat} (h : ¬ x < ks.length) : ks[x]? ≠ some true := by rw [List.getElem?_eq_none (by omega)]; simp
theorem get_ints {l : List Nat} {n x i : Nat} (h : l[x]? = some i) (hn : n = x) : (ints l)[n]? = some (.int .i64 (i : Int)) := by subst hn; rw [ints, List.getElem?_map, h]; rfl
theorem hurt1_yes {l : List Nat} {ks : List Bool} {kept : List Sec} {h : HX} {i : Nat} {x : Sec} (hh : hits l ks h) (hi : l[h.which.toNat]? = some i) (hx : kept[i]? = some x) : hurt1 l ks kept h = kept.set i (turnS x h.at_.toNat h.bits) := by
  unfold hurt1; rw [if_pos hh, hi]; simp only [hx]
theorem hurt1_no {l : List Nat} {ks : List Bool} {kept : List Sec} {h : HX} (hh : ¬ hits l ks h) : hurt1 l ks kept h = kept := by unfold hurt1; rw [if_neg hh]
section
variable {ops : Array Oper} {Q : Exit → Act → World → Prop} {N : Nat} {U : Env} {w0 : World} {L0 L F : List Res} {ty : TypeId} {rest : List Oper} {pos : String} {after : Array Edge} {xs : List Operand} {tys : Array TypeId} {t : Tmp}
theorem gl_turn {kb o i a v : Nat} {at' : Int} {l : List Sec} {x0 : Sec} (hf : ∀ args w, (callFunc 35 args).run Tryz.prog w = .ok (.enter 35 args) w) (hx : opvs U xs = some [.pointer (some ⟨kb, o, none⟩), .int .i64 at', .int .u32 (v : Int)]) (hat : at' = (a : Int)) (hi : l[i]? = some x0) (ho : o = i * 64) (ha : a ≤ 512) (hw : v < 4294967296)
    (hsub : Sub ([cl kb 69 (l.flatMap sv)] ++ F) L) (hd : Nat.ble (t + 1) N = true)
    (hr : ∀ u, GL Tryz.prog ops Q rest N ((t, u) :: U) w0 L0 ([cl kb 69 ((l.set i (turnS x0 a v)).flatMap sv)] ++ F)) : GL Tryz.prog ops Q (⟨some t, .call ⟨.value (.func 35), xs.toArray, tys⟩, ty, pos, after, Option.none⟩ :: rest) N U w0 L0 L := by
  subst hat
  have hil := (List.getElem?_eq_some_iff.1 hi).1
  have e : l.set i x0 = l := by
    refine List.ext_getElem? fun m => ?_
    by_cases hm : m = i
    · subst hm; rw [List.getElem?_set_self hil, hi]
    · rw [List.getElem?_set_ne (by omega)]
  refine GL.callM (α := Unit) (l := [cl kb 69 (l.flatMap sv)]) (Pv := fun _ _ => True) (l' := fun _ => [cl kb 69 ((l.set i (turnS x0 a v)).flatMap sv)]) hf hx hsub (fun w hT => ?_) hd fun _ u _ => hr u
  have hok := hT.ok _ (hsub.mem (List.mem_cons_self))
  have := turn_con (w := w) (kb := kb) (o := o) (x0 := x0) hil ho ha hw (by rw [e]; exact hok)
  rw [e] at this
  exact this.mono fun e' w' ⟨he, ht⟩ => ⟨(), _, he, trivial, ht⟩
end

theorem fo73_0 : K.fieldOff Tryz.prog 73 0 = some (3, 0, 1) := by kernel_rfl
theorem fo73_1 : K.fieldOff Tryz.prog 73 1 = some (3, 1, 1) := by kernel_rfl
theorem fo73_2 : K.fieldOff Tryz.prog 73 2 = some (71, 2, 1) := by kernel_rfl
theorem sl33 : K.slOf Tryz.prog 33 = some (4, 1) := by kernel_rfl
theorem sl34 : K.slOf Tryz.prog 34 = some (73, 3) := by kernel_rfl
/- (*turntable/dev.Dev).Boot -/
set_option maxHeartbeats 1000000 in
set_option maxRecDepth 100000 in
theorem boot_con {d : Nat} {g : DG} (hk : g.Ok) {ak ah : Option Addr} {nk ck nh ch : Nat} {ks : List Bool} {hs : List HX} {w : World} (ho : (DevR d g).ok w.heap) (hSk : Sl w 1 ak nk (ks.map .bool)) (hfk : 0 < nk → ¬ (DevR d g).fp (bk ak)) (hSh : Sl w 3 ah nh (hs.flatMap encH)) (hfh : 0 < nh → ¬ (DevR d g).fp (bk ah)) (hb : ∀ h ∈ hs, h.bits < 4294967296) (hnh : nh ≤ 9223372036854775807) :
    Calls Tryz.prog 12 #[.pointer (some ⟨d, 0, none⟩), .slice ak nk ck, .slice ah nh ch] w fun e w' => ∃ x : DG, e = .returned (.tuple #[]) ∧ x.Ok ∧ x.v = g.v.boot ks hs ∧ Tr w [DevR d g, wildR] w' [DevR d x, wildR] := by
  have hll : g.v.list.length ≤ 4096 := by
    have h1 := List.length_filter_le (fun i => (g.v.loose i).isSome) (List.range g.v.kept.length)
    rw [List.length_range] at h1
    have h2 : g.v.kept.length = g.kept.length := rfl
    have h3 := hk.n2
    have h4 : g.v.list.length ≤ g.v.kept.length := h1
    omega
  have hkl : ks.length = nk := by have := hSk.len; rw [List.length_map] at this; omega
  have hhl : hs.length = nh := hSh.count (by omega) encH_len
  refine K.enter (args := [_, _, _]) Tryz.func12 rfl Tryz.ntmps12 rfl (disjW _) (okW ho) ?_
  refine K.GC.seq ?_
  refine K.GC.region ?_
  refine K.GL.det (K.e_move rfl) rfl ?_
  refine gl_loose Tryz.call22 rfl (by assumption) rfl (fun a1 c1 => ?_)
  refine K.GL.det (K.e_assign rfl) rfl ?_
  refine K.GL.nil ?_
  refine K.GQ.go ?_
  refine K.GC.seq ?_
  refine K.GC.seq ?_
  refine K.GC.fact (p := 0 < g.v.list.length → a1 = some ⟨bk a1, of_ a1, none⟩) (fun w hT => (hT.sl_row (List.mem_cons_of_mem _ List.mem_cons_self) (by omega) (by simp [ints])).base) (fun hbase => ?_)
  refine K.GC.res (L' := DevR d g :: [row a1 c1 1 3 (ints g.v.list), wildR]) ?_ K.sb
  refine K.GC.opened (l := g.L d) (F := [row a1 c1 1 3 (ints g.v.list), wildR]) ?_
  refine K.GC.res (L' := [cl d 60 g.str, cl g.kb 69 (g.kept.flatMap sv), mp g.mb (g.es.map SE.me) g.c, all (g.es.map secR), row a1 c1 1 3 (ints g.v.list), wildR]) ?_ (K.Sub.refl _)
  refine K.GC.region ?_
  refine K.GL.det (K.e_move rfl) rfl ?_
  refine K.GL.det (K.e_len Tryz.underlying51 rfl) rfl ?_
  refine K.GL.det (K.e_move rfl) rfl ?_
  refine K.GL.nil ?_
  refine K.GQ.go ?_
  refine K.GC.block ?_
  refine K.GC.loopk (α := Nat) [0, 1, 2, 6, 10, 13, 14, 45, 46, 47, 48, 49, 50, 51, 52, 53, 54, 55, 56, 57, 58, 59, 60, 61, 62, 63, 64, 65, 66, 67, 68, 69, 70, 71, 72, 73, 74, 75, 76, 77, 78, 79, 80, 81, 82, 83, 84, 85, 86, 87, 88, 89, 90, 91, 92, 93, 94, 95, 96, 97, 98, 100, 101, 102, 103, 104, 105, 106] rfl (fun x => [(15, .int .i64 (x : Int))]) (fun x => [cl d 60 g.str, cl g.kb 69 ((g.v.keptL ks x).flatMap sv), mp g.mb (g.es.map SE.me) g.c, all (g.es.map secR), row a1 c1 1 3 (ints g.v.list), wildR]) (fun x => x ≤ g.v.list.length) (fun x => (g.v.list.length - x)) 0 (by omega) (by (repeat refine ⟨rfl, ?_⟩); exact trivial) (K.Sub.refl _) (fun x hI => ?_)
  refine K.GC.seq ?_
  refine K.GC.region ?_
  first | refine K.GL.det ((K.e_lt rfl rfl).yes (by first | omega | assumption | decide +kernel)) rfl ?_ | refine K.GL.det ((K.e_lt rfl rfl).no (by first | omega | assumption | decide +kernel)) rfl ?_ | refine K.GL.det (K.e_lt rfl rfl) rfl ?_
  refine K.GL.nil ?_
  refine K.GQ.go ?_
  refine K.GC.seq ?_
  refine K.GC.condB rfl (fun h1 => ?_) (fun h1 => ?_)
  · first
    | exact absurd h1 (by decide)
    | try replace h1 := of_decide_eq_true h1
      refine K.GC.skip ?_
      refine K.GQ.go ?_
      refine K.GC.seq ?_
      refine K.GC.block ?_
      refine K.GC.seq ?_
      obtain ⟨i, hi⟩ : ∃ i, g.v.list[x]? = some i := get_ex (by omega)
      obtain ⟨hin, y, hy, e1, he1, hek, hey, hmf⟩ := list_spec hk hi
      subst hek hey
      have hkpl := keptL_length g.v ks x
      have hkpv : g.v.kept.length = g.kept.length := rfl
      refine K.GC.region ?_
      refine K.GL.det (K.e_move rfl) rfl ?_
      refine K.GL.det (K.e_indexAddrB sl51 rfl rfl hbase (by omega) (by omega)) rfl ?_
      refine K.GL.det (K.e_loadw Tryz.isAgg3 rfl (fun w hT => (hT.sl_row (k := 1) (n := g.v.list.length) (List.mem_of_getElem? (i := 4) rfl) (by omega) (by simp [ints])).cell _ _ (get_ints hi (by omega)))) rfl ?_
      refine K.GL.det (K.e_assign rfl) rfl ?_
      refine K.GL.det (K.e_assign rfl) rfl ?_
      refine K.GL.nil ?_
      refine K.GQ.go ?_
      refine K.GC.seq ?_
      refine K.GC.region ?_
      refine K.GL.det (K.e_move rfl) rfl ?_
      refine K.GL.det (K.e_move rfl) rfl ?_
      refine K.GL.det (K.e_len Tryz.underlying33 rfl) rfl ?_
      first | refine K.GL.det ((K.e_lt rfl rfl).yes (by first | omega | assumption | decide +kernel)) rfl ?_ | refine K.GL.det ((K.e_lt rfl rfl).no (by first | omega | assumption | decide +kernel)) rfl ?_ | refine K.GL.det (K.e_lt rfl rfl) rfl ?_
      refine K.GL.det (K.e_move rfl) rfl ?_
      first | refine K.GL.splitB 24 rfl (fun h2 => ?_) (fun h2 => ?_) | skip
      all_goals first | exact absurd h2 (by decide) | replace h2 := of_decide_eq_true h2 | replace h2 := of_decide_eq_false h2 | skip
      all_goals
        first | (refine K.GL.want 24 rfl rfl rfl ?_; first | refine K.GL.det (K.e_move rfl) rfl ?_) | refine K.GL.skip 24 rfl rfl rfl rfl ?_ | refine K.GL.skipU 24 rfl rfl rfl rfl ?_
        first | (refine K.GL.want 24 rfl rfl rfl ?_; first | refine K.GL.det (K.e_move rfl) rfl ?_) | refine K.GL.skip 24 rfl rfl rfl rfl ?_ | refine K.GL.skipU 24 rfl rfl rfl rfl ?_
        first | (refine K.GL.want 24 rfl rfl rfl ?_; first | refine K.GL.det (K.e_indexAddrS sl33 rfl rfl (by assumption) (by omega) (by omega)) rfl ?_ | refine K.GL.det (K.e_indexAddr sl33 rfl rfl (by omega) (by omega)) rfl ?_) | refine K.GL.skip 24 rfl rfl rfl rfl ?_ | refine K.GL.skipU 24 rfl rfl rfl rfl ?_
        first | (refine K.GL.want 24 rfl rfl rfl ?_; first | refine K.GL.det (K.e_loadw Tryz.isAgg4 rfl (fun w hT => (hSk.stay hT (fun r hr => by simp only [List.mem_cons, List.not_mem_nil, or_false] at hr; rcases hr with rfl | rfl; exact hfk (by omega); exact id)).cell _ _ (get_bool (x := x) (by omega) (by omega)))) rfl ?_) | refine K.GL.skip 24 rfl rfl rfl rfl ?_ | refine K.GL.skipU 24 rfl rfl rfl rfl ?_
        first | refine K.GL.det (K.e_pick_t rfl rfl) rfl ?_ | refine K.GL.det (K.e_pick_f rfl rfl) rfl ?_
        refine K.GL.nil ?_
        refine K.GQ.go ?_
        refine K.GC.condB rfl (fun h3 => ?_) (fun h3 => ?_)
        · first
          | exact absurd h3 (by decide)
          | try replace h3 := of_decide_eq_true h3
            refine K.GC.drawn 14 [[], [0], [0, 1], [0, 1, 2], [], [], [5], [5, 6], [5, 6, 7], [], [5, 6, 7, 8, 9], [5, 6, 7, 8, 9, 10], [5, 6, 7, 8, 9, 10, 11], [0, 1, 2, 3, 4, 5, 6, 7, 8, 9, 10, 11, 12], [0, 1, 2, 3, 4, 5, 6, 7, 8, 9, 10, 11, 12, 13]] [[], [0], [1], [2], [], [], [5], [6], [7], [], [8, 9], [10], [11], [3, 4]] [0, 1, 2, 6, 7, 8, 10, 13, 14, 15, 16, 17, 18, 19, 20, 21, 22, 23, 24, 25, 26, 27, 28, 29, 44, 45, 46, 47, 48, 49, 50, 51, 52, 53, 54, 55, 56, 57, 58, 59, 60, 61, 62, 63, 64, 65, 66, 67, 68, 69, 70, 71, 72, 73, 74, 75, 76, 77, 78, 79, 80, 81, 82, 83, 84, 85, 86, 87, 88, 89, 90, 91, 92, 93, 94, 95, 96, 97, 98, 100, 101, 102, 103, 104, 105, 106] (by kernel_rfl) (by kernel_rfl) rfl ?_
            refine K.DW.det rfl (fun vs => K.e_move rfl) ?_
            refine K.DW.det rfl (fun vs => K.e_nilCheck rfl) ?_
            refine K.DW.det rfl (fun vs => K.e_fieldAddr fo60_0 rfl) ?_
            first | refine K.DW.det rfl (fun vs => K.e_load Tryz.isAgg57 rfl rfl) ?_ | refine K.DW.det rfl (fun vs => K.e_load0 Tryz.isAgg57 rfl (by assumption)) ?_
            refine K.DW.det rfl (fun vs => K.e_move rfl) ?_
            refine K.DW.det rfl (fun vs => K.e_move rfl) ?_
            refine K.DW.det rfl (fun vs => K.e_nilCheck rfl) ?_
            refine K.DW.det rfl (fun vs => K.e_fieldAddr fo60_1 rfl) ?_
            first | refine K.DW.det rfl (fun vs => K.e_load Tryz.isAgg58 rfl rfl) ?_ | refine K.DW.det rfl (fun vs => K.e_load0 Tryz.isAgg58 rfl (by assumption)) ?_
            refine K.DW.det rfl (fun vs => K.e_move rfl) ?_
            refine K.DW.det rfl (fun vs => K.e_lookup1_some Tryz.underlying58 Tryz.underlying3 Tryz.zeroValue70 rfl rfl hmf) ?_
            refine K.DW.det rfl (fun vs => K.e_nilCheck rfl) ?_
            refine K.DW.det rfl (fun vs => K.e_loadsw Tryz.isAgg69 Tryz.sizeOf69 rfl (fun w hT => sec_cells (hT.ok (all (g.es.map secR)) (List.mem_of_getElem? (i := 3) rfl)) he1) (sv_length _)) ?_
            first | refine K.DW.det rfl (fun vs => K.e_indexAddrS sl57 rfl rfl (by assumption) (by omega) (by omega)) ?_ | refine K.DW.det rfl (fun vs => K.e_indexAddr sl57 rfl rfl (by omega) (by omega)) ?_
            refine K.DW.fin0 rfl (fun vs => ?_)
            refine K.GL.keep [0, 1, 2, 6, 7, 8, 10, 13, 14, 15, 16, 17, 18, 19, 20, 21, 22, 23, 24, 25, 26, 27, 28, 29, 30, 31, 32, 33, 34, 35, 36, 37, 38, 39, 40, 41, 42, 43, 44, 45, 46, 47, 48, 49, 50, 51, 52, 53, 54, 55, 56, 57, 58, 59, 60, 61, 62, 63, 64, 65, 66, 67, 68, 69, 70, 71, 72, 73, 74, 75, 76, 77, 78, 79, 80, 81, 82, 83, 84, 85, 86, 87, 88, 89, 90, 91, 92, 93, 94, 95, 96, 97, 98, 100, 101, 102, 103, 104, 105, 106] rfl ?_
            clear vs
            refine K.GL.storeP (cs' := ((g.v.keptL ks x).set e1.k e1.y).flatMap sv) rfl rfl rfl Tryz.sizeOf69 (sv_length _) (oneCells_bv _) (by rw [Nat.zero_add]; exact spliceO_flat sv 64 sv_length e1.y (by omega)) ?_
            refine K.GL.nil ?_
            refine K.GQ.block_normal ?_
            refine K.GQ.go ?_
            refine K.GC.region ?_
            first | refine K.GL.det (K.e_add rfl rfl ⟨by omega, by omega⟩) rfl ?_ | refine K.GL.det (K.e_addw rfl rfl) rfl ?_
            refine K.GL.det (K.e_move rfl) rfl ?_
            refine K.GL.nil ?_
            exact K.GQ.round (x + 1) (by omega) (by omega) (by (repeat refine ⟨rfl, ?_⟩); exact trivial) (by first | (rw [keptL_yes hi (get_true (by assumption)) hy]; exact K.Sub.refl _) | (rw [keptL_no (get_false (by assumption))]; exact K.Sub.refl _) | (rw [keptL_no (get_out (by omega))]; exact K.Sub.refl _))
        · first
          | exact absurd h3 (by decide)
          | try replace h3 := of_decide_eq_false h3
            refine K.GC.skip ?_
            refine K.GQ.block_normal ?_
            refine K.GQ.go ?_
            refine K.GC.region ?_
            first | refine K.GL.det (K.e_add rfl rfl ⟨by omega, by omega⟩) rfl ?_ | refine K.GL.det (K.e_addw rfl rfl) rfl ?_
            refine K.GL.det (K.e_move rfl) rfl ?_
            refine K.GL.nil ?_
            exact K.GQ.round (x + 1) (by omega) (by omega) (by (repeat refine ⟨rfl, ?_⟩); exact trivial) (by first | (rw [keptL_yes hi (get_true (by assumption)) hy]; exact K.Sub.refl _) | (rw [keptL_no (get_false (by assumption))]; exact K.Sub.refl _) | (rw [keptL_no (get_out (by omega))]; exact K.Sub.refl _))
  · first
    | exact absurd h1 (by decide)
    | try replace h1 := of_decide_eq_false h1
      refine K.GC.exit ?_
      refine K.GQ.then_exit ?_
      refine K.GQ.then_exit ?_
      refine K.GQ.block_hit ?_
      refine K.GQ.go ?_
      refine K.GC.seq ?_
      obtain rfl : x = g.v.list.length := by omega
      refine K.GC.region ?_
      refine K.GL.det (K.e_move rfl) rfl ?_
      refine K.GL.det (K.e_nilCheck rfl) rfl ?_
      refine K.GL.det (K.e_fieldAddr fo60_1 rfl) rfl ?_
      first | refine K.GL.det (K.e_load Tryz.isAgg58 rfl rfl) rfl ?_ | refine K.GL.det (K.e_load0 Tryz.isAgg58 rfl (by assumption)) rfl ?_
      refine K.GL.clear Tryz.underlying58 rfl ?_
      refine K.GL.nil ?_
      refine K.GQ.go ?_
      refine K.GC.seq ?_
      refine K.GC.seq ?_
      refine K.GC.region ?_
      refine K.GL.det (K.e_move rfl) rfl ?_
      refine K.GL.det (K.e_len Tryz.underlying34 rfl) rfl ?_
      refine K.GL.det (K.e_move rfl) rfl ?_
      refine K.GL.nil ?_
      refine K.GQ.go ?_
      refine K.GC.block ?_
      refine K.GC.loopk (α := Nat) [0, 1, 6, 49, 50, 101, 102, 103, 104, 105, 106] rfl (fun x => [(51, .int .i64 (x : Int))]) (fun x => [cl d 60 g.str, cl g.kb 69 ((g.v.hurts ks (hs.take x)).flatMap sv), mp g.mb [] g.c, all (g.es.map secR), row a1 c1 1 3 (ints g.v.list), wildR]) (fun x => x ≤ hs.length) (fun x => (hs.length - x)) 0 (by omega) (by (repeat refine ⟨rfl, ?_⟩); exact trivial) (K.Sub.refl _) (fun x hI => ?_)
      refine K.GC.seq ?_
      refine K.GC.region ?_
      first | refine K.GL.det ((K.e_lt rfl rfl).yes (by first | omega | assumption | decide +kernel)) rfl ?_ | refine K.GL.det ((K.e_lt rfl rfl).no (by first | omega | assumption | decide +kernel)) rfl ?_ | refine K.GL.det (K.e_lt rfl rfl) rfl ?_
      refine K.GL.nil ?_
      refine K.GQ.go ?_
      refine K.GC.seq ?_
      refine K.GC.condB rfl (fun h4 => ?_) (fun h4 => ?_)
      · first
        | exact absurd h4 (by decide)
        | try replace h4 := of_decide_eq_true h4
          refine K.GC.skip ?_
          refine K.GQ.go ?_
          refine K.GC.seq ?_
          refine K.GC.block ?_
          refine K.GC.seq ?_
          obtain ⟨h, hh⟩ : ∃ h, hs[x]? = some h := get_ex (by omega)
          have hbh := hb h (List.mem_of_getElem? hh)
          refine K.GC.region ?_
          first | refine K.GL.det (K.e_indexAddrS sl34 rfl rfl (by assumption) (by omega) (by omega)) rfl ?_ | refine K.GL.det (K.e_indexAddr sl34 rfl rfl (by omega) (by omega)) rfl ?_
          refine K.GL.det (K.e_loadsw Tryz.isAgg73 Tryz.sizeOf73 rfl (fun w hT => (hSh.stay hT (fun r hr => by simp only [List.mem_cons, List.not_mem_nil, or_false] at hr; rcases hr with rfl | rfl; exact hfh (by omega); exact id)).item encH_len hh) rfl) rfl ?_
          refine K.GL.alloc Tryz.zeroValue73 rfl rfl (fun b10 => ?_)
          refine K.GL.store rfl rfl rfl Tryz.sizeOf73 rfl rfl ?_
          refine K.GL.nil ?_
          refine K.GQ.go ?_
          refine K.GC.seq ?_
          refine K.GC.region ?_
          refine K.GL.det (K.e_fieldAddr fo73_0 rfl) rfl ?_
          first | refine K.GL.det (K.e_load Tryz.isAgg3 rfl rfl) rfl ?_ | refine K.GL.det (K.e_load0 Tryz.isAgg3 rfl (by assumption)) rfl ?_
          first | refine K.GL.det ((K.e_ge rfl rfl).yes (by first | omega | assumption | decide +kernel)) rfl ?_ | refine K.GL.det ((K.e_ge rfl rfl).no (by first | omega | assumption | decide +kernel)) rfl ?_ | refine K.GL.det (K.e_ge rfl rfl) rfl ?_
          refine K.GL.det (K.e_move rfl) rfl ?_
          first | refine K.GL.splitB 58 rfl (fun h5 => ?_) (fun h5 => ?_) | skip
          all_goals first | exact absurd h5 (by decide) | replace h5 := of_decide_eq_true h5 | replace h5 := of_decide_eq_false h5 | skip
          all_goals
            first | (refine K.GL.want 58 rfl rfl rfl ?_; first | refine K.GL.det (K.e_fieldAddr fo73_0 rfl) rfl ?_) | refine K.GL.skip 58 rfl rfl rfl rfl ?_ | refine K.GL.skipU 58 rfl rfl rfl rfl ?_
            first | (refine K.GL.want 58 rfl rfl rfl ?_; first | refine K.GL.det (K.e_load Tryz.isAgg3 rfl rfl) rfl ?_ | refine K.GL.det (K.e_load0 Tryz.isAgg3 rfl (by assumption)) rfl ?_) | refine K.GL.skip 58 rfl rfl rfl rfl ?_ | refine K.GL.skipU 58 rfl rfl rfl rfl ?_
            first | (refine K.GL.want 58 rfl rfl rfl ?_; first | refine K.GL.det (K.e_move rfl) rfl ?_) | refine K.GL.skip 58 rfl rfl rfl rfl ?_ | refine K.GL.skipU 58 rfl rfl rfl rfl ?_
            first | (refine K.GL.want 58 rfl rfl rfl ?_; first | refine K.GL.det (K.e_len Tryz.underlying51 rfl) rfl ?_) | refine K.GL.skip 58 rfl rfl rfl rfl ?_ | refine K.GL.skipU 58 rfl rfl rfl rfl ?_
            first | (refine K.GL.want 58 rfl rfl rfl ?_; first | refine K.GL.det (K.e_move rfl) rfl ?_) | refine K.GL.skip 58 rfl rfl rfl rfl ?_ | refine K.GL.skipU 58 rfl rfl rfl rfl ?_
            first | (refine K.GL.want 58 rfl rfl rfl ?_; first | refine K.GL.det (K.e_len Tryz.underlying33 rfl) rfl ?_) | refine K.GL.skip 58 rfl rfl rfl rfl ?_ | refine K.GL.skipU 58 rfl rfl rfl rfl ?_
            first | (refine K.GL.want 58 rfl rfl rfl ?_; first | refine K.GL.det (K.e_min rfl rfl) rfl ?_) | refine K.GL.skip 58 rfl rfl rfl rfl ?_ | refine K.GL.skipU 58 rfl rfl rfl rfl ?_
            first | (refine K.GL.want 58 rfl rfl rfl ?_; first | refine K.GL.det ((K.e_lt rfl rfl).yes (by first | omega | assumption | decide +kernel)) rfl ?_ | refine K.GL.det ((K.e_lt rfl rfl).no (by first | omega | assumption | decide +kernel)) rfl ?_ | refine K.GL.det (K.e_lt rfl rfl) rfl ?_) | refine K.GL.skip 58 rfl rfl rfl rfl ?_ | refine K.GL.skipU 58 rfl rfl rfl rfl ?_
            first | refine K.GL.det (K.e_pick_t rfl rfl) rfl ?_ | refine K.GL.det (K.e_pick_f rfl rfl) rfl ?_
            refine K.GL.det (K.e_move rfl) rfl ?_
            first | refine K.GL.splitB 68 rfl (fun h6 => ?_) (fun h6 => ?_) | skip
            all_goals first | exact absurd h6 (by decide) | replace h6 := of_decide_eq_true h6 | replace h6 := of_decide_eq_false h6 | skip
            all_goals
              first | (refine K.GL.want 68 rfl rfl rfl ?_; first | refine K.GL.det (K.e_move rfl) rfl ?_) | refine K.GL.skip 68 rfl rfl rfl rfl ?_ | refine K.GL.skipU 68 rfl rfl rfl rfl ?_
              first | (refine K.GL.want 68 rfl rfl rfl ?_; first | refine K.GL.det (K.e_fieldAddr fo73_0 rfl) rfl ?_) | refine K.GL.skip 68 rfl rfl rfl rfl ?_ | refine K.GL.skipU 68 rfl rfl rfl rfl ?_
              first | (refine K.GL.want 68 rfl rfl rfl ?_; first | refine K.GL.det (K.e_load Tryz.isAgg3 rfl rfl) rfl ?_ | refine K.GL.det (K.e_load0 Tryz.isAgg3 rfl (by assumption)) rfl ?_) | refine K.GL.skip 68 rfl rfl rfl rfl ?_ | refine K.GL.skipU 68 rfl rfl rfl rfl ?_
              first | (refine K.GL.want 68 rfl rfl rfl ?_; first | refine K.GL.det (K.e_indexAddrS sl33 rfl rfl (by assumption) (by omega) (by omega)) rfl ?_ | refine K.GL.det (K.e_indexAddr sl33 rfl rfl (by omega) (by omega)) rfl ?_) | refine K.GL.skip 68 rfl rfl rfl rfl ?_ | refine K.GL.skipU 68 rfl rfl rfl rfl ?_
              first | (refine K.GL.want 68 rfl rfl rfl ?_; first | refine K.GL.det (K.e_loadw Tryz.isAgg4 rfl (fun w hT => (hSk.stay hT (fun r hr => by simp only [List.mem_cons, List.not_mem_nil, or_false] at hr; rcases hr with rfl | rfl; exact hfk (by omega); exact id)).cell _ _ (get_bool (x := h.which.toNat) (by omega) (by omega)))) rfl ?_) | refine K.GL.skip 68 rfl rfl rfl rfl ?_ | refine K.GL.skipU 68 rfl rfl rfl rfl ?_
              first | refine K.GL.det (K.e_pick_t rfl rfl) rfl ?_ | refine K.GL.det (K.e_pick_f rfl rfl) rfl ?_
              refine K.GL.det (K.e_move rfl) rfl ?_
              first | refine K.GL.splitB 75 rfl (fun h7 => ?_) (fun h7 => ?_) | skip
              all_goals first | exact absurd h7 (by decide) | replace h7 := of_decide_eq_true h7 | replace h7 := of_decide_eq_false h7 | skip
              all_goals
                first | (refine K.GL.want 75 rfl rfl rfl ?_; first | refine K.GL.det (K.e_fieldAddr fo73_1 rfl) rfl ?_) | refine K.GL.skip 75 rfl rfl rfl rfl ?_ | refine K.GL.skipU 75 rfl rfl rfl rfl ?_
                first | (refine K.GL.want 75 rfl rfl rfl ?_; first | refine K.GL.det (K.e_load Tryz.isAgg3 rfl rfl) rfl ?_ | refine K.GL.det (K.e_load0 Tryz.isAgg3 rfl (by assumption)) rfl ?_) | refine K.GL.skip 75 rfl rfl rfl rfl ?_ | refine K.GL.skipU 75 rfl rfl rfl rfl ?_
                first | (refine K.GL.want 75 rfl rfl rfl ?_; first | refine K.GL.det ((K.e_ge rfl rfl).yes (by first | omega | assumption | decide +kernel)) rfl ?_ | refine K.GL.det ((K.e_ge rfl rfl).no (by first | omega | assumption | decide +kernel)) rfl ?_ | refine K.GL.det (K.e_ge rfl rfl) rfl ?_) | refine K.GL.skip 75 rfl rfl rfl rfl ?_ | refine K.GL.skipU 75 rfl rfl rfl rfl ?_
                first | refine K.GL.det (K.e_pick_t rfl rfl) rfl ?_ | refine K.GL.det (K.e_pick_f rfl rfl) rfl ?_
                refine K.GL.det (K.e_move rfl) rfl ?_
                first | refine K.GL.splitB 80 rfl (fun h8 => ?_) (fun h8 => ?_) | skip
                all_goals first | exact absurd h8 (by decide) | replace h8 := of_decide_eq_true h8 | replace h8 := of_decide_eq_false h8 | skip
                all_goals
                  first | (refine K.GL.want 80 rfl rfl rfl ?_; first | refine K.GL.det (K.e_fieldAddr fo73_1 rfl) rfl ?_) | refine K.GL.skip 80 rfl rfl rfl rfl ?_ | refine K.GL.skipU 80 rfl rfl rfl rfl ?_
                  first | (refine K.GL.want 80 rfl rfl rfl ?_; first | refine K.GL.det (K.e_load Tryz.isAgg3 rfl rfl) rfl ?_ | refine K.GL.det (K.e_load0 Tryz.isAgg3 rfl (by assumption)) rfl ?_) | refine K.GL.skip 80 rfl rfl rfl rfl ?_ | refine K.GL.skipU 80 rfl rfl rfl rfl ?_
                  first | (refine K.GL.want 80 rfl rfl rfl ?_; first | refine K.GL.det ((K.e_lt rfl rfl).yes (by first | omega | assumption | decide +kernel)) rfl ?_ | refine K.GL.det ((K.e_lt rfl rfl).no (by first | omega | assumption | decide +kernel)) rfl ?_ | refine K.GL.det (K.e_lt rfl rfl) rfl ?_) | refine K.GL.skip 80 rfl rfl rfl rfl ?_ | refine K.GL.skipU 80 rfl rfl rfl rfl ?_
                  first | refine K.GL.det (K.e_pick_t rfl rfl) rfl ?_ | refine K.GL.det (K.e_pick_f rfl rfl) rfl ?_
                  refine K.GL.nil ?_
                  refine K.GQ.go ?_
                  refine K.GC.condB rfl (fun h9 => ?_) (fun h9 => ?_)
                  · first
                    | exact absurd h9 (by decide)
                    | try replace h9 := of_decide_eq_true h9
                      obtain ⟨i, hi⟩ : ∃ i, g.v.list[h.which.toNat]? = some i := get_ex (by omega)
                      have hin := (list_spec hk hi).1
                      have hkpl := hurts_length g.v ks (hs.take x)
                      have hkpv : g.v.kept.length = g.kept.length := rfl
                      obtain ⟨x0, hx0⟩ : ∃ x0, (g.v.hurts ks (hs.take x))[i]? = some x0 := get_ex (by omega)
                      refine K.GC.drawn 14 [[], [0], [0, 1], [0, 1, 2], [], [], [5], [4, 5, 6], [4, 5, 6, 7], [0, 1, 2, 3, 4, 5, 6, 7, 8], [], [10], [], [12], [0, 1, 2, 3, 4, 5, 6, 7, 8, 9, 10, 11, 12, 13]] [[], [0], [1], [2], [], [], [5], [4, 6], [7], [3, 8], [], [10], [], [12]] [0, 1, 6, 10, 49, 50, 51, 52, 53, 54, 55, 56, 57, 58, 59, 60, 61, 62, 63, 64, 65, 66, 67, 68, 69, 70, 71, 72, 73, 74, 75, 76, 77, 78, 79, 80, 81, 82, 83, 84, 100, 101, 102, 103, 104, 105, 106] (by kernel_rfl) (by kernel_rfl) rfl ?_
                      refine K.DW.det rfl (fun vs => K.e_move rfl) ?_
                      refine K.DW.det rfl (fun vs => K.e_nilCheck rfl) ?_
                      refine K.DW.det rfl (fun vs => K.e_fieldAddr fo60_0 rfl) ?_
                      first | refine K.DW.det rfl (fun vs => K.e_load Tryz.isAgg57 rfl rfl) ?_ | refine K.DW.det rfl (fun vs => K.e_load0 Tryz.isAgg57 rfl (by assumption)) ?_
                      refine K.DW.det rfl (fun vs => K.e_move rfl) ?_
                      refine K.DW.det rfl (fun vs => K.e_fieldAddr fo73_0 rfl) ?_
                      first | refine K.DW.det rfl (fun vs => K.e_load Tryz.isAgg3 rfl rfl) ?_ | refine K.DW.det rfl (fun vs => K.e_load0 Tryz.isAgg3 rfl (by assumption)) ?_
                      refine K.DW.det rfl (fun vs => K.e_indexAddrB sl51 rfl rfl hbase (by omega) (by omega)) ?_
                      refine K.DW.det rfl (fun vs => K.e_loadw Tryz.isAgg3 rfl (fun w hT => (hT.sl_row (k := 1) (n := g.v.list.length) (List.mem_of_getElem? (i := 5) rfl) (by omega) (by simp [ints])).cell _ _ (get_ints hi (by omega)))) ?_
                      first | refine K.DW.det rfl (fun vs => K.e_indexAddrS sl57 rfl rfl (by assumption) (by omega) (by omega)) ?_ | refine K.DW.det rfl (fun vs => K.e_indexAddr sl57 rfl rfl (by omega) (by omega)) ?_
                      refine K.DW.det rfl (fun vs => K.e_fieldAddr fo73_1 rfl) ?_
                      first | refine K.DW.det rfl (fun vs => K.e_load Tryz.isAgg3 rfl rfl) ?_ | refine K.DW.det rfl (fun vs => K.e_load0 Tryz.isAgg3 rfl (by assumption)) ?_
                      refine K.DW.det rfl (fun vs => K.e_fieldAddr fo73_2 rfl) ?_
                      first | refine K.DW.det rfl (fun vs => K.e_load Tryz.isAgg71 rfl rfl) ?_ | refine K.DW.det rfl (fun vs => K.e_load0 Tryz.isAgg71 rfl (by assumption)) ?_
                      refine K.DW.fin0 rfl (fun vs => ?_)
                      refine K.GL.keep [0, 1, 6, 10, 49, 50, 51, 52, 53, 54, 55, 56, 57, 58, 59, 60, 61, 62, 63, 64, 65, 66, 67, 68, 69, 70, 71, 72, 73, 74, 75, 76, 77, 78, 79, 80, 81, 82, 83, 84, 85, 86, 87, 88, 89, 90, 91, 92, 93, 94, 95, 96, 97, 98, 100, 101, 102, 103, 104, 105, 106] rfl ?_
                      clear vs
                      refine gl_turn (a := h.at_.toNat) Tryz.call35 rfl (by omega) hx0 (by omega) (by omega) hbh (K.Sub.front (i := 2) rfl) rfl (fun u => ?_)
                      refine K.GL.nil ?_
                      refine K.GQ.block_normal ?_
                      refine K.GQ.go ?_
                      refine K.GC.region ?_
                      first | refine K.GL.det (K.e_add rfl rfl ⟨by omega, by omega⟩) rfl ?_ | refine K.GL.det (K.e_addw rfl rfl) rfl ?_
                      refine K.GL.det (K.e_move rfl) rfl ?_
                      refine K.GL.nil ?_
                      exact K.GQ.round (x + 1) (by omega) (by omega) (by (repeat refine ⟨rfl, ?_⟩); exact trivial) (by
                        rw [hurts_next g.v ks hh]
                        first
                          | (rw [hurt1_yes (l := g.v.list) (ks := ks) (h := h) (i := i) (x := x0) ⟨by omega, by omega, by omega, get_true (by assumption), by omega, by omega⟩ hi hx0]; exact Sub.five _ _ _ _ _ _ _)
                          | (rw [hurt1_no (l := g.v.list) (ks := ks) (h := h) (fun hc => by have hc' := hc; unfold hits at hc'; omega)]; exact K.Sub.tail _ _)
                          | (rw [hurt1_no (l := g.v.list) (ks := ks) (h := h) (fun hc => absurd hc.2.2.2.1 (get_false (by assumption)))]; exact K.Sub.tail _ _))
                  · first
                    | exact absurd h9 (by decide)
                    | try replace h9 := of_decide_eq_false h9
                      refine K.GC.skip ?_
                      refine K.GQ.block_normal ?_
                      refine K.GQ.go ?_
                      refine K.GC.region ?_
                      first | refine K.GL.det (K.e_add rfl rfl ⟨by omega, by omega⟩) rfl ?_ | refine K.GL.det (K.e_addw rfl rfl) rfl ?_
                      refine K.GL.det (K.e_move rfl) rfl ?_
                      refine K.GL.nil ?_
                      exact K.GQ.round (x + 1) (by omega) (by omega) (by (repeat refine ⟨rfl, ?_⟩); exact trivial) (by
                        rw [hurts_next g.v ks hh]
                        first
                          | (rw [hurt1_yes (l := g.v.list) (ks := ks) (h := h) (i := i) (x := x0) ⟨by omega, by omega, by omega, get_true (by assumption), by omega, by omega⟩ hi hx0]; exact Sub.five _ _ _ _ _ _ _)
                          | (rw [hurt1_no (l := g.v.list) (ks := ks) (h := h) (fun hc => by have hc' := hc; unfold hits at hc'; omega)]; exact K.Sub.tail _ _)
                          | (rw [hurt1_no (l := g.v.list) (ks := ks) (h := h) (fun hc => absurd hc.2.2.2.1 (get_false (by assumption)))]; exact K.Sub.tail _ _))
      · first
        | exact absurd h4 (by decide)
        | try replace h4 := of_decide_eq_false h4
          refine K.GC.exit ?_
          refine K.GQ.then_exit ?_
          refine K.GQ.then_exit ?_
          refine K.GQ.block_hit ?_
          refine K.GQ.go ?_
          refine K.GC.region ?_
          refine K.GL.det (K.e_move rfl) rfl ?_
          refine K.GL.det (K.e_move rfl) rfl ?_
          refine K.GL.det (K.e_nilCheck rfl) rfl ?_
          refine K.GL.det (K.e_fieldAddr fo60_2 rfl) rfl ?_
          refine K.GL.store rfl rfl rfl Tryz.sizeOf4 rfl rfl ?_
          refine K.GL.det (K.e_nilCheck rfl) rfl ?_
          refine K.GL.det (K.e_fieldAddr fo60_4 rfl) rfl ?_
          refine K.GL.store rfl rfl rfl Tryz.sizeOf3 rfl rfl ?_
          refine K.GL.nil ?_
          refine K.GQ.end_ret ?_
          refine K.GQ.ret0 Tryz.results12 (fun w hT => ?_)
          obtain rfl : x = hs.length := by omega
          rw [List.take_length] at hT
          obtain ⟨x2, hx1, hx2, hx3⟩ := boot_end (ks := ks) (hs := hs) hk hT
          exact ⟨x2, rfl, hx1, hx2, hx3⟩
end Go.Proofs.YtdbedajaapamhaaGreat
