/- EntryParts returns true for all calls, and turns nothing. -/
import Derived.ProofKit
import Derived.OpenShut
import Derived.SizedLaws
import Derived.Lib.SmallJoins
import Derived.Test.YtcphpcjcbmennaaRows
import Derived.Test.YtcphpcjcbmennaaEntL
import Derived.Test.YtcphpcjcbmennaaEntM
namespace Go.Proofs.Ytcphpcjcbmennaa
open Go Go.K Go.ChangeShapes Go.WideShapes Go.ChangeAt Go.RowKit Go.Joins
set_option linter.unusedVariables false
set_option linter.unusedSimpArgs false
attribute [local irreducible] Calls Ev GL GC GQ GR Code.wp
theorem own : ownKnob Try.prog.godebug = none := by kernel_rfl
theorem laidOut : laidOutB Try.prog = true := by kernel_rfl
theorem all_len {g : IG} {l : List OE} (hl : l.map OE.x = g.all) : l.length = g.es.length := by rw [← IG.all_length, ← hl, List.length_map]
theorem mem_put {x e : EX} : ∀ {l : List EX}, e ∈ xput x l → e = x ∨ e ∈ l
  | [], h => by simp only [xput, List.mem_singleton] at h; exact .inl h
  | z :: l, h => by
    simp only [xput] at h
    split at h
    · rcases List.mem_cons.1 h with h | h
      · exact .inl h
      · exact .inr (List.mem_cons_of_mem _ h)
    · rcases List.mem_cons.1 h with h | h
      · exact .inr (by rw [h]; exact List.mem_cons_self)
      · rcases mem_put h with h | h
        · exact .inl h
        · exact .inr (List.mem_cons_of_mem _ h)
structure Parts (g : IG) (ss : List Int) : Prop where
  nd : ss.Nodup
  all : ∀ e ∈ g.ents, e.seq ∈ ss
theorem Parts.old {g g2 : IG} {ss : List Int} {x : EX} (h : Parts g ss) (hv : g2.ents = xput x g.ents) (hx : x.seq ∈ ss) : Parts g2 ss := ⟨h.nd, fun e he => by
  rw [hv] at he
  rcases mem_put he with rfl | h1
  · exact hx
  · exact h.all e h1⟩
theorem Parts.add {g g2 : IG} {ss : List Int} {x : EX} (h : Parts g ss) (hv : g2.ents = xput x g.ents) (hx : x.seq ∉ ss) : Parts g2 (ss ++ [x.seq]) := ⟨by
  rw [List.nodup_append]
  refine ⟨h.nd, by simp, fun a ha b hb => ?_⟩
  simp only [List.mem_singleton] at hb
  subst hb
  exact fun e => hx (e ▸ ha), fun e he => by
  rw [hv] at he
  rcases mem_put he with rfl | h1
  · simp
  · exact List.mem_append_left _ (h.all e h1)⟩
def sumIn (g : IG) (l : List Int) : Nat := (l.map fun s => (g.in_ s).length).sum
theorem sumIn_next {g : IG} {ss : List Int} {k : Nat} {s : Int} (h : ss[k]? = some s) : sumIn g (ss.take (k + 1)) = sumIn g (ss.take k) + (g.in_ s).length := by
  unfold sumIn
  rw [List.take_add_one, h, List.map_append, List.sum_append]
  simp
theorem sum_ite {α : Type} (f : Int → Nat) (s : Int) : ∀ {ss : List Int}, ss.Nodup → s ∈ ss → (ss.map fun t => (if s = t then 1 else 0) + f t).sum = 1 + (ss.map f).sum
  | t :: ss, hn, hm => by
    rw [List.nodup_cons] at hn
    simp only [List.map_cons, List.sum_cons]
    by_cases h : s = t
    · subst h
      have h0 : (ss.map fun t => (if s = t then 1 else 0) + f t) = ss.map f := List.map_congr_left fun u hu => by
        rw [if_neg (fun e : s = u => hn.1 (by rw [e]; exact hu)), Nat.zero_add]
      rw [h0, if_pos rfl]; omega
    · rw [if_neg h, sum_ite (α := α) f s hn.2 (by rcases List.mem_cons.1 hm with h1 | h1; exact absurd h1 h; exact h1)]; omega
theorem sum_parts : ∀ {l : List EX} {ss : List Int}, ss.Nodup → (∀ e ∈ l, e.seq ∈ ss) → (ss.map fun s => (l.filter fun x => decide (x.seq = s)).length).sum = l.length
  | [], ss, _, _ => by
    have : ∀ ss : List Int, (ss.map fun s => (([] : List EX).filter fun x => decide (x.seq = s)).length).sum = 0 := fun ss => by
      induction ss with
      | nil => rfl
      | cons s ss ih => rw [List.map_cons, List.sum_cons, ih]; rfl
    exact this ss
  | e :: l, ss, hn, h => by
    have h1 : (ss.map fun s => ((e :: l).filter fun x => decide (x.seq = s)).length) = ss.map fun s => (if e.seq = s then 1 else 0) + (l.filter fun x => decide (x.seq = s)).length := List.map_congr_left fun s _ => by
      by_cases hs : e.seq = s
      · rw [List.filter_cons_of_pos (by simpa using hs), if_pos hs, List.length_cons]; omega
      · rw [List.filter_cons_of_neg (by simpa using hs), if_neg hs]; omega
    rw [h1, sum_ite (α := Nat) _ _ hn (h e List.mem_cons_self), sum_parts hn (fun x hx => h x (List.mem_cons_of_mem _ hx)), List.length_cons]; omega
theorem Parts.sum {g : IG} {ss : List Int} (h : Parts g ss) : sumIn g ss = g.ents.length := by
  have : (ss.map fun s => (g.in_ s).length) = ss.map fun s => (g.ents.filter fun x => decide (x.seq = s)).length := List.map_congr_left fun s _ => by
    unfold IG.in_ sortX; rw [List.length_mergeSort]
  unfold sumIn
  rw [this]
  exact sum_parts h.nd h.all
theorem in_next {ss : List Int} {y : Nat} {s k : Int} (h : ss[y]? = some s) (hb : false = decide (k ∈ ss.take y)) : decide (s = k) = decide (k ∈ ss.take (y + 1)) := by
  have hb2 : ¬ k ∈ ss.take y := of_decide_eq_false hb.symm
  rw [List.take_add_one, h]
  by_cases e : s = k
  · rw [decide_eq_true e, decide_eq_true]; simp [e]
  · rw [decide_eq_false e, decide_eq_false]; simp [hb2]; exact fun h => e h.symm
theorem in_stay {ss : List Int} {y : Nat} {k : Int} (hb : true = decide (k ∈ ss.take y)) : true = decide (k ∈ ss.take (y + 1)) := by
  have hb2 : k ∈ ss.take y := of_decide_eq_true hb.symm
  rw [decide_eq_true]
  rw [List.take_add_one]
  exact List.mem_append_left _ hb2
theorem intsV_length (l : List Int) : (intsV l).length = l.length := by simp [intsV]
theorem intsV_snoc (l : List Int) (s : Int) : intsV (l ++ [s]) = intsV l ++ [.int .i64 s] := by simp [intsV]

/- turntable/turntablelaw14.EntryParts -/
set_option maxHeartbeats 8000000 in
set_option maxRecDepth 100000 in
theorem parts_any {a : Option Addr} {n c : Nat} {l : List OX} (w : World) (hL : Sl w 20 a n (l.flatMap encP)) (hG : ∀ q ∈ l, OGood w q) (hn : n ≤ 9223372036854775807) :
    Calls Try.prog 7 #[.slice a n c] w fun e w' => e = .returned (.bool true) ∧ Tr w [] w' [] := by
  have hl : l.length = n := hL.count (by omega) encP_len
  refine K.enter0 (args := [_]) Try.func7 rfl Try.ntmps7 rfl ?_
  refine K.GC.seq ?_
  refine K.GC.region ?_
  refine K.GL.det (K.e_assign rfl) rfl ?_
  refine K.GL.nil ?_
  refine K.GQ.go ?_
  refine K.GC.seq ?_
  refine K.GC.region ?_
  refine K.GL.det (K.e_call1 Try.call9 rfl (fun w hT => head_con)) rfl ?_
  refine K.GL.det (K.e_assign rfl) rfl ?_
  refine K.GL.nil ?_
  refine K.GQ.go ?_
  refine K.GC.seq ?_
  refine K.GC.region ?_
  refine gl_new Try.call10 rfl rfl (fun d g1 hk1 hv1 => ?_)
  refine K.GL.det (K.e_assign rfl) rfl ?_
  refine K.GL.nil ?_
  refine K.GQ.go ?_
  refine K.GC.seq ?_
  refine K.GC.seq ?_
  refine K.GC.region ?_
  refine K.GL.det (K.e_move rfl) rfl ?_
  refine K.GL.det ((K.e_eqlp Try.underlying24 rfl rfl).cast_bool (b := false) rfl) rfl ?_
  refine K.GL.det (K.e_move rfl) rfl ?_
  first | refine K.GL.splitB 16 rfl (fun h1 => ?_) (fun h1 => ?_) | skip
  all_goals first | exact absurd h1 (by decide) | replace h1 := of_decide_eq_true h1 | replace h1 := of_decide_eq_false h1 | skip
  all_goals
    first | (refine K.GL.want 16 rfl rfl rfl ?_; first | refine K.GL.det (K.e_move rfl) rfl ?_) | refine K.GL.skip 16 rfl rfl rfl rfl ?_ | refine K.GL.skipU 16 rfl rfl rfl rfl ?_
    refine K.GL.want 16 rfl rfl rfl ?_
    refine gl_great (l := l) Try.call11 rfl (fun w hT => ⟨hL.stay hT (fun r hr => by cases hr), fun q hq => (hG q hq).e.sl.stay hT (fun r hr => by cases hr)⟩) (by omega) (fun q hq => (hG q hq).e.lt) rfl (fun gr18 hg18 => ?_)
    rcases gr18 with _ | _
    all_goals
      first | refine K.GL.det (K.e_pick_t rfl rfl) rfl ?_ | refine K.GL.det (K.e_pick_f rfl rfl) rfl ?_
      refine K.GL.nil ?_
      refine K.GQ.go ?_
      refine K.GC.condB rfl (fun h2 => ?_) (fun h2 => ?_)
      · first
        | exact absurd h2 (by decide)
        | try replace h2 := of_decide_eq_true h2
          refine K.GC.seq ?_
          refine K.GC.region ?_
          refine K.GL.det (K.e_move rfl) rfl ?_
          refine K.GL.det ((K.e_neqp Try.underlying24 rfl rfl).cast_bool (b := true) rfl) rfl ?_
          refine K.GL.det (K.e_move rfl) rfl ?_
          first | refine K.GL.splitB 22 rfl (fun h3 => ?_) (fun h3 => ?_) | skip
          all_goals first | exact absurd h3 (by decide) | replace h3 := of_decide_eq_true h3 | replace h3 := of_decide_eq_false h3 | skip
          all_goals
            first | (refine K.GL.want 22 rfl rfl rfl ?_; first | refine K.GL.det (K.e_move rfl) rfl ?_) | refine K.GL.skip 22 rfl rfl rfl rfl ?_ | refine K.GL.skipU 22 rfl rfl rfl rfl ?_
            first | refine K.GL.det (K.e_pick_t rfl rfl) rfl ?_ | refine K.GL.det (K.e_pick_f rfl rfl) rfl ?_
            refine K.GL.det (K.e_assign rfl) rfl ?_
            refine K.GL.nil ?_
            refine K.GQ.go ?_
            refine K.GC.ret ?_
            refine K.GQ.then_ret ?_
            refine K.GQ.ret1 Try.results7 rfl (fun w hT => ?_)
            exact ⟨rfl, hT.nil⟩
      · first
        | exact absurd h2 (by decide)
        | try replace h2 := of_decide_eq_false h2
          refine K.GC.skip ?_
          refine K.GQ.go ?_
          refine K.GC.seq ?_
          have hgs := hg18 rfl
          refine K.GC.region ?_
          refine K.GL.det (K.e_assign rfl) rfl ?_
          refine K.GL.nil ?_
          refine K.GQ.go ?_
          refine K.GC.seq ?_
          refine K.GC.seq ?_
          refine K.GC.region ?_
          refine K.GL.det (K.e_assign rfl) rfl ?_
          refine K.GL.nil ?_
          refine K.GQ.go ?_
          refine K.GC.block ?_
          refine K.GC.row_nil 1 2 ?_
          refine K.GC.loopk (α := Nat × IG × List Int × Option Addr × Nat) [0, 2, 3, 4, 10, 11, 62, 63, 64, 65, 66, 67, 68, 69, 70, 71, 72, 73, 74, 75, 76, 77, 78, 79, 80, 81, 82, 83, 84, 85, 86, 87, 88, 89, 90] rfl (fun x => [(5, .slice x.2.2.2.1 x.2.2.1.length x.2.2.2.2), (6, .int .i64 (x.1 : Int))]) (fun x => [row x.2.2.2.1 x.2.2.2.2 1 2 (intsV x.2.2.1), IdxR d x.2.1]) (fun x => x.1 ≤ n ∧ x.2.1.Ok ∧ x.2.1.es.length ≤ x.1 ∧ Parts x.2.1 x.2.2.1 ∧ x.2.2.1.length ≤ x.1) (fun x => (n - x.1)) (0, g1, [], none, 0) ⟨Nat.zero_le _, hk1, by rw [← IG.ents_length, hv1]; exact Nat.le_refl _, ⟨by simp, by rw [hv1]; simp⟩, Nat.le_refl _⟩ (by (repeat refine ⟨rfl, ?_⟩); exact trivial) (K.Sub.refl _) (fun x hI => ?_)
          obtain ⟨x, g, ss, sa, sc⟩ := x
          obtain ⟨hx, hk, hz, hP, hsl⟩ := hI
          simp only at hx hk hz hP hsl ⊢
          refine K.GC.seq ?_
          refine K.GC.seq ?_
          refine K.GC.region ?_
          refine K.GL.det (K.e_move rfl) rfl ?_
          refine K.GL.det (K.e_move rfl) rfl ?_
          refine K.GL.det (K.e_len Try.underlying22 rfl) rfl ?_
          first | refine K.GL.det ((K.e_lt rfl rfl).yes (by first | omega | assumption | decide +kernel)) rfl ?_ | refine K.GL.det ((K.e_lt rfl rfl).no (by first | omega | assumption | decide +kernel)) rfl ?_ | refine K.GL.det (K.e_lt rfl rfl) rfl ?_
          refine K.GL.nil ?_
          refine K.GQ.go ?_
          refine K.GC.condB rfl (fun h4 => ?_) (fun h4 => ?_)
          · first
            | exact absurd h4 (by decide)
            | try replace h4 := of_decide_eq_true h4
              refine K.GC.skip ?_
              refine K.GQ.go ?_
              refine K.GC.seq ?_
              refine K.GC.block ?_
              refine K.GC.seq ?_
              obtain ⟨q, hq⟩ : ∃ q, l[x]? = some q := get_ex (by omega)
              refine K.GC.fact (p := 0 < ss.length → sa = some ⟨bk sa, of_ sa, none⟩) (fun w hT => (hT.sl_row (k := 1) (n := ss.length) HasW.mem (by omega) (by rw [intsV_length, Nat.mul_one])).base) (fun hbs => ?_)
              refine K.GC.region ?_
              refine K.GL.det (K.e_move rfl) rfl ?_
              refine K.GL.det (K.e_move rfl) rfl ?_
              refine K.GL.det (K.e_indexAddrS sl22 rfl rfl hL (by omega) (by omega)) rfl ?_
              refine K.GL.det (K.e_fieldAddr fo35_1 rfl) rfl ?_
              refine K.GL.det (K.e_loadsw (vs := encE q.e q.ea q.ec) Try.isAgg33 Try.sizeOf33 rfl (fun w hT j v hj => hT.cell0 (op_ent hL hq j v hj)) rfl) rfl ?_
              refine K.GL.alloc Try.zeroValue33 rfl rfl (fun b7 => ?_)
              refine K.GL.store rfl rfl rfl Try.sizeOf33 rfl rfl ?_
              refine K.GL.nil ?_
              refine K.GQ.go ?_
              refine K.GC.seq ?_
              refine K.GC.region ?_
              refine K.GL.det (K.e_move rfl) rfl ?_
              refine K.GL.det (K.e_loads Try.isAgg33 Try.sizeOf33 rfl rfl) rfl ?_
              refine gl_put (x := q.e) (a0 := q.ea) (c0 := q.ec) (was := (xget q.e.id g.ents).isSome) Try.call17 rfl hk rfl (fun w hT => ⟨(hG q (List.mem_of_getElem? hq)).e.sl.stay hT (fun r hr => by cases hr), fun h0 => apart_old (hG q (List.mem_of_getElem? hq)).e.sl (by omega) hT PickI.mem h0⟩) (hG q (List.mem_of_getElem? hq)).e.id (hgs.2 q (List.mem_of_getElem? hq)) rfl (fun g2 hk2 hv2 => ?_)
              refine K.GL.nil ?_
              refine K.GQ.go ?_
              refine K.GC.seq ?_
              refine K.GC.region ?_
              refine K.GL.det (K.e_assign rfl) rfl ?_
              refine K.GL.nil ?_
              refine K.GQ.go ?_
              refine K.GC.seq ?_
              refine K.GC.seq ?_
              refine K.GC.region ?_
              refine K.GL.det (K.e_assign rfl) rfl ?_
              refine K.GL.nil ?_
              refine K.GQ.go ?_
              refine K.GC.block ?_
              refine K.GC.loopk (α := Nat × Bool) [0, 2, 3, 4, 5, 6, 7, 10, 11, 25, 26, 27, 28, 29, 30, 31, 32, 33, 34, 35, 36, 37, 55, 56, 57, 58, 59, 60, 61, 62, 63, 64, 65, 66, 67, 68, 69, 70, 71, 72, 73, 74, 75, 76, 77, 78, 79, 80, 81, 82, 83, 84, 85, 86, 87, 88, 89, 90] rfl (fun y => [(8, .bool y.2), (9, .int .i64 (y.1 : Int))]) (fun y => [row sa sc 1 2 (intsV ss), cl b7 33 (encE q.e q.ea q.ec), IdxR d g2]) (fun y => y.1 ≤ ss.length ∧ y.2 = decide (q.e.seq ∈ ss.take y.1)) (fun y => (ss.length - y.1)) (0, false) ⟨Nat.zero_le _, by simp⟩ (by (repeat refine ⟨rfl, ?_⟩); exact trivial) (Sub.take (i := 2) rfl (Sub.take (i := 1) rfl (Sub.take (i := 0) rfl (Sub.nil _)))) (fun y hI => ?_)
              obtain ⟨y, bb⟩ := y
              obtain ⟨hy, hbb⟩ := hI
              simp only at hy hbb ⊢
              refine K.GC.seq ?_
              refine K.GC.seq ?_
              refine K.GC.region ?_
              refine K.GL.det (K.e_move rfl) rfl ?_
              refine K.GL.det (K.e_move rfl) rfl ?_
              refine K.GL.det (K.e_len Try.underlying50 rfl) rfl ?_
              first | refine K.GL.det ((K.e_lt rfl rfl).yes (by first | omega | assumption | decide +kernel)) rfl ?_ | refine K.GL.det ((K.e_lt rfl rfl).no (by first | omega | assumption | decide +kernel)) rfl ?_ | refine K.GL.det (K.e_lt rfl rfl) rfl ?_
              refine K.GL.nil ?_
              refine K.GQ.go ?_
              refine K.GC.condB rfl (fun h5 => ?_) (fun h5 => ?_)
              · first
                | exact absurd h5 (by decide)
                | try replace h5 := of_decide_eq_true h5
                  refine K.GC.skip ?_
                  refine K.GQ.go ?_
                  refine K.GC.seq ?_
                  refine K.GC.block ?_
                  obtain ⟨s, hs⟩ : ∃ s, ss[y]? = some s := get_ex (by omega)
                  refine K.GC.drawn 10 [[], [0], [0, 1], [0, 1], [0, 1, 2, 3], [0, 1, 2, 3, 4], [0, 1], [0, 1, 6], [0, 1, 2, 3, 4, 5, 6, 7], [0, 1, 2, 3, 4, 5, 6, 7, 8], [0, 1, 2, 3, 4, 5, 6, 7, 8, 9]] [[], [0], [1], [1], [1, 2, 3], [1, 4], [1], [1, 6], [1, 5, 7], [1, 8]] [0, 2, 3, 4, 5, 6, 7, 8, 9, 10, 11, 25, 26, 27, 28, 29, 30, 31, 32, 33, 34, 35, 36, 37, 39, 40, 41, 42, 43, 44, 55, 56, 57, 58, 59, 60, 61, 62, 63, 64, 65, 66, 67, 68, 69, 70, 71, 72, 73, 74, 75, 76, 77, 78, 79, 80, 81, 82, 83, 84, 85, 86, 87, 88, 89, 90] (by kernel_rfl) (by kernel_rfl) rfl ?_
                  rcases bb with _ | _
                  all_goals
                    refine K.DW.det rfl (fun vs => K.e_move rfl) ?_
                    refine K.DW.det rfl (fun vs => K.e_move rfl) ?_
                    first | (refine K.DW.want (fun _ => rfl) ?_; first | refine K.DW.det rfl (fun vs => K.e_move rfl) ?_) | refine K.DW.skip (fun _ => rfl) ?_
                    first | (refine K.DW.want (fun _ => rfl) ?_; first | refine K.DW.det rfl (fun vs => K.e_move rfl) ?_) | refine K.DW.skip (fun _ => rfl) ?_
                    first | (refine K.DW.want (fun _ => rfl) ?_; first | refine K.DW.det rfl (fun vs => K.e_indexAddrB sl50 rfl rfl hbs (by omega) (by omega)) ?_) | refine K.DW.skip (fun _ => rfl) ?_
                    first | (refine K.DW.want (fun _ => rfl) ?_; first | refine K.DW.det rfl (fun vs => K.e_loadw Try.isAgg2 rfl (fun w hT => (hT.sl_row (k := 1) (n := ss.length) HasW.mem (by omega) (by rw [intsV_length, Nat.mul_one])).cell _ _ (intsV_get hs (by omega)))) ?_) | refine K.DW.skip (fun _ => rfl) ?_
                    first | (refine K.DW.want (fun _ => rfl) ?_; first | refine K.DW.det rfl (fun vs => K.e_fieldAddr fo33_2 rfl) ?_) | refine K.DW.skip (fun _ => rfl) ?_
                    first | (refine K.DW.want (fun _ => rfl) ?_; first | refine K.DW.det rfl (fun vs => K.e_load Try.isAgg2 rfl rfl) ?_ | refine K.DW.det rfl (fun vs => K.e_load0 Try.isAgg2 rfl (by assumption)) ?_) | refine K.DW.skip (fun _ => rfl) ?_
                    first | (refine K.DW.want (fun _ => rfl) ?_; first | refine K.DW.det rfl (fun vs => K.e_eq rfl rfl) ?_) | refine K.DW.skip (fun _ => rfl) ?_
                    first | refine K.DW.det rfl (fun vs => K.e_pick_t rfl rfl) ?_ | refine K.DW.det rfl (fun vs => K.e_pick_f rfl rfl) ?_
                    refine K.DW.fin0 rfl (fun vs => ?_)
                    refine K.GL.keep [0, 2, 3, 4, 5, 6, 7, 8, 9, 10, 11, 25, 26, 27, 28, 29, 30, 31, 32, 33, 34, 35, 36, 37, 39, 40, 41, 42, 43, 44, 45, 46, 47, 48, 49, 50, 51, 52, 53, 54, 55, 56, 57, 58, 59, 60, 61, 62, 63, 64, 65, 66, 67, 68, 69, 70, 71, 72, 73, 74, 75, 76, 77, 78, 79, 80, 81, 82, 83, 84, 85, 86, 87, 88, 89, 90] rfl ?_
                    clear vs
                    refine K.GL.det (K.e_assign rfl) rfl ?_
                    refine K.GL.nil ?_
                    refine K.GQ.block_normal ?_
                    refine K.GQ.go ?_
                    refine K.GC.region ?_
                    refine K.GL.det (K.e_move rfl) rfl ?_
                    first | refine K.GL.det (K.e_add rfl rfl ⟨by omega, by omega⟩) rfl ?_ | refine K.GL.det (K.e_addw rfl rfl) rfl ?_
                    refine K.GL.det (K.e_assign rfl) rfl ?_
                    refine K.GL.nil ?_
                    first
                      | exact K.GQ.round (y + 1, true) ⟨by simp only; omega, in_stay hbb⟩ (by simp only; omega) (by (repeat refine ⟨rfl, ?_⟩); exact trivial) (Sub.refl _)
                      | exact K.GQ.round (y + 1, decide (s = q.e.seq)) ⟨by simp only; omega, in_next hs hbb⟩ (by simp only; omega) (by (repeat refine ⟨rfl, ?_⟩); exact trivial) (Sub.refl _)
              · first
                | exact absurd h5 (by decide)
                | try replace h5 := of_decide_eq_false h5
                  refine K.GC.exit ?_
                  refine K.GQ.then_exit ?_
                  refine K.GQ.then_exit ?_
                  refine K.GQ.block_hit ?_
                  refine K.GQ.go ?_
                  refine K.GC.seq ?_
                  have hyl : ss.take y = ss := List.take_of_length_le (by omega)
                  rw [hyl] at hbb
                  rcases bb with _ | _
                  all_goals
                    refine K.GC.region ?_
                    refine K.GL.det (K.e_move rfl) rfl ?_
                    first | refine K.GL.det ((K.e_not rfl).cast_bool (b := true) rfl) rfl ?_ | refine K.GL.det ((K.e_not rfl).cast_bool (b := false) rfl) rfl ?_
                    refine K.GL.nil ?_
                    refine K.GQ.go ?_
                    refine K.GC.condB rfl (fun h6 => ?_) (fun h6 => ?_)
                    · first
                      | exact absurd h6 (by decide)
                      | try replace h6 := of_decide_eq_true h6
                        refine K.GC.region ?_
                        refine K.GL.det (K.e_move rfl) rfl ?_
                        refine K.GL.det (K.e_fieldAddr fo33_2 rfl) rfl ?_
                        first | refine K.GL.det (K.e_load Try.isAgg2 rfl rfl) rfl ?_ | refine K.GL.det (K.e_load0 Try.isAgg2 rfl (by assumption)) rfl ?_
                        refine K.GL.buildSlice mk50 rfl rfl rfl (fun b60 => ?_)
                        refine K.GL.append mk50 rfl rfl (by rw [intsV_length]; exact (Nat.mul_one _).symm) rfl (fun w hT => Sl.of_block (hT.ok _ (List.mem_of_getElem? (i := 0) rfl)) rfl) (by omega) (oneCells_spec (by rfl)) (by omega) (by omega) _ rfl (fun a61 c61 => ?_)
                        refine K.GL.det (K.e_assign rfl) rfl ?_
                        refine K.GL.nil ?_
                        refine K.GQ.block_normal ?_
                        refine K.GQ.go ?_
                        refine K.GC.region ?_
                        refine K.GL.det (K.e_move rfl) rfl ?_
                        first | refine K.GL.det (K.e_add rfl rfl ⟨by omega, by omega⟩) rfl ?_ | refine K.GL.det (K.e_addw rfl rfl) rfl ?_
                        refine K.GL.det (K.e_assign rfl) rfl ?_
                        refine K.GL.nil ?_
                        first
                          | exact K.GQ.round (x + 1, g2, ss ++ [q.e.seq], a61, c61) ⟨by simp only; omega, hk2, put_len hz hv2, hP.add hv2 (of_decide_eq_false hbb.symm), by simp only [List.length_append, List.length_cons, List.length_nil]; omega⟩ (by simp only; omega) (by simp only [List.length_append]; (repeat refine ⟨rfl, ?_⟩); exact trivial) (by simp only [intsV_snoc]; exact (Sub.take (i := 1) rfl (Sub.take (i := 2) rfl (Sub.nil _))))
                          | exact K.GQ.round (x + 1, g2, ss, sa, sc) ⟨by simp only; omega, hk2, put_len hz hv2, hP.old hv2 (of_decide_eq_true hbb.symm), by simp only; omega⟩ (by simp only; omega) (by (repeat refine ⟨rfl, ?_⟩); exact trivial) (Sub.take (i := 0) rfl (Sub.take (i := 1) rfl (Sub.nil _)))
                    · first
                      | exact absurd h6 (by decide)
                      | try replace h6 := of_decide_eq_false h6
                        refine K.GC.skip ?_
                        refine K.GQ.block_normal ?_
                        refine K.GQ.go ?_
                        refine K.GC.region ?_
                        refine K.GL.det (K.e_move rfl) rfl ?_
                        first | refine K.GL.det (K.e_add rfl rfl ⟨by omega, by omega⟩) rfl ?_ | refine K.GL.det (K.e_addw rfl rfl) rfl ?_
                        refine K.GL.det (K.e_assign rfl) rfl ?_
                        refine K.GL.nil ?_
                        first
                          | exact K.GQ.round (x + 1, g2, ss ++ [q.e.seq], a61, c61) ⟨by simp only; omega, hk2, put_len hz hv2, hP.add hv2 (of_decide_eq_false hbb.symm), by simp only [List.length_append, List.length_cons, List.length_nil]; omega⟩ (by simp only; omega) (by simp only [List.length_append]; (repeat refine ⟨rfl, ?_⟩); exact trivial) (by simp only [intsV_snoc]; exact (Sub.take (i := 1) rfl (Sub.take (i := 2) rfl (Sub.nil _))))
                          | exact K.GQ.round (x + 1, g2, ss, sa, sc) ⟨by simp only; omega, hk2, put_len hz hv2, hP.old hv2 (of_decide_eq_true hbb.symm), by simp only; omega⟩ (by simp only; omega) (by (repeat refine ⟨rfl, ?_⟩); exact trivial) (Sub.take (i := 0) rfl (Sub.take (i := 1) rfl (Sub.nil _)))
          · first
            | exact absurd h4 (by decide)
            | try replace h4 := of_decide_eq_false h4
              refine K.GC.exit ?_
              refine K.GQ.then_exit ?_
              refine K.GQ.then_exit ?_
              refine K.GQ.block_hit ?_
              refine K.GQ.go ?_
              refine K.GC.seq ?_
              refine K.GC.fact (p := 0 < ss.length → sa = some ⟨bk sa, of_ sa, none⟩) (fun w hT => (hT.sl_row (k := 1) (n := ss.length) HasW.mem (by omega) (by rw [intsV_length, Nat.mul_one])).base) (fun hbs => ?_)
              have hz9 : g.es.length ≤ 9000 := by omega
              refine K.GC.region ?_
              refine K.GL.det (K.e_assign rfl) rfl ?_
              refine K.GL.nil ?_
              refine K.GQ.go ?_
              refine K.GC.seq ?_
              refine K.GC.seq ?_
              refine K.GC.region ?_
              refine K.GL.det (K.e_assign rfl) rfl ?_
              refine K.GL.nil ?_
              refine K.GQ.go ?_
              refine K.GC.block ?_
              refine K.GC.loopk (α := Nat × Nat) [2, 3, 4, 5, 77, 78, 79, 80, 81, 82, 83, 84, 85, 86, 87, 88, 89, 90] rfl (fun z => [(10, .int .i64 (z.2 : Int)), (11, .int .i64 (z.1 : Int))]) (fun z => [row sa sc 1 2 (intsV ss), IdxR d g]) (fun z => z.1 ≤ ss.length ∧ z.2 = sumIn g (ss.take z.1) ∧ z.2 ≤ z.1 * 9000) (fun z => (ss.length - z.1)) (0, 0) ⟨Nat.zero_le _, rfl, by simp⟩ (by (repeat refine ⟨rfl, ?_⟩); exact trivial) (K.Sub.refl _) (fun z hI => ?_)
              obtain ⟨z, m⟩ := z
              obtain ⟨hz1, hz2, hz3⟩ := hI
              simp only at hz1 hz2 hz3 ⊢
              refine K.GC.seq ?_
              refine K.GC.seq ?_
              refine K.GC.region ?_
              refine K.GL.det (K.e_move rfl) rfl ?_
              refine K.GL.det (K.e_move rfl) rfl ?_
              refine K.GL.det (K.e_len Try.underlying50 rfl) rfl ?_
              first | refine K.GL.det ((K.e_lt rfl rfl).yes (by first | omega | assumption | decide +kernel)) rfl ?_ | refine K.GL.det ((K.e_lt rfl rfl).no (by first | omega | assumption | decide +kernel)) rfl ?_ | refine K.GL.det (K.e_lt rfl rfl) rfl ?_
              refine K.GL.nil ?_
              refine K.GQ.go ?_
              refine K.GC.condB rfl (fun h7 => ?_) (fun h7 => ?_)
              · first
                | exact absurd h7 (by decide)
                | try replace h7 := of_decide_eq_true h7
                  refine K.GC.skip ?_
                  refine K.GQ.go ?_
                  refine K.GC.seq ?_
                  refine K.GC.block ?_
                  obtain ⟨s, hs⟩ : ∃ s, ss[z]? = some s := get_ex (by omega)
                  have hin9 := IG.in_length g s
                  refine K.GC.region ?_
                  refine K.GL.det (K.e_move rfl) rfl ?_
                  refine K.GL.det (K.e_move rfl) rfl ?_
                  refine K.GL.det (K.e_move rfl) rfl ?_
                  refine K.GL.det (K.e_move rfl) rfl ?_
                  refine K.GL.det (K.e_indexAddrB sl50 rfl rfl hbs (by omega) (by omega)) rfl ?_
                  refine K.GL.det (K.e_loadw Try.isAgg2 rfl (fun w hT => (hT.sl_row (k := 1) (n := ss.length) HasW.mem (by omega) (by rw [intsV_length, Nat.mul_one])).cell _ _ (intsV_get hs (by omega)))) rfl ?_
                  refine gl_in Try.call29 rfl hk hz9 rfl (fun a74 c74 => ?_)
                  refine K.GL.det (K.e_len Try.underlying50 rfl) rfl ?_
                  first | refine K.GL.det (K.e_add rfl rfl ⟨by omega, by omega⟩) rfl ?_ | refine K.GL.det (K.e_addw rfl rfl) rfl ?_
                  refine K.GL.det (K.e_assign rfl) rfl ?_
                  refine K.GL.nil ?_
                  refine K.GQ.block_normal ?_
                  refine K.GQ.go ?_
                  refine K.GC.region ?_
                  refine K.GL.det (K.e_move rfl) rfl ?_
                  first | refine K.GL.det (K.e_add rfl rfl ⟨by omega, by omega⟩) rfl ?_ | refine K.GL.det (K.e_addw rfl rfl) rfl ?_
                  refine K.GL.det (K.e_assign rfl) rfl ?_
                  refine K.GL.nil ?_
                  exact K.GQ.round (z + 1, m + (g.in_ s).length) ⟨by simp only; omega, by simp only; rw [sumIn_next hs, ← hz2], by simp only; omega⟩ (by simp only; omega) (by simp only [Int.natCast_add, Int.natCast_succ]; (repeat refine ⟨rfl, ?_⟩); exact trivial) (Sub.take (i := 1) rfl (Sub.take (i := 1) rfl (Sub.nil _)))
              · first
                | exact absurd h7 (by decide)
                | try replace h7 := of_decide_eq_false h7
                  refine K.GC.exit ?_
                  refine K.GQ.then_exit ?_
                  refine K.GQ.then_exit ?_
                  refine K.GQ.block_hit ?_
                  refine K.GQ.go ?_
                  refine K.GC.seq ?_
                  rw [List.take_of_length_le (by omega), hP.sum] at hz2
                  have hle := IG.ents_length g
                  refine K.GC.region ?_
                  refine K.GL.det (K.e_move rfl) rfl ?_
                  refine K.GL.det (K.e_move rfl) rfl ?_
                  first | refine K.GL.splitB 78 rfl (fun h8 => ?_) (fun h8 => ?_) | skip
                  all_goals first | exact absurd h8 (by decide) | replace h8 := of_decide_eq_true h8 | replace h8 := of_decide_eq_false h8 | skip
                  all_goals
                    first | (refine K.GL.want 78 rfl rfl rfl ?_; first | refine K.GL.det (K.e_move rfl) rfl ?_) | refine K.GL.skip 78 rfl rfl rfl rfl ?_ | refine K.GL.skipU 78 rfl rfl rfl rfl ?_
                    first | (refine K.GL.want 78 rfl rfl rfl ?_; first | refine K.GL.det (K.e_move rfl) rfl ?_) | refine K.GL.skip 78 rfl rfl rfl rfl ?_ | refine K.GL.skipU 78 rfl rfl rfl rfl ?_
                    first | (refine K.GL.want 78 rfl rfl rfl ?_; first | refine K.GL.det (K.e_call1 Try.call26 rfl (fun w hT => many_con (hT.ok _ PickI.mem))) rfl ?_) | refine K.GL.skip 78 rfl rfl rfl rfl ?_ | refine K.GL.skipU 78 rfl rfl rfl rfl ?_
                    first | (refine K.GL.want 78 rfl rfl rfl ?_; first | refine K.GL.det ((K.e_eq rfl rfl).yes (by omega)) rfl ?_) | refine K.GL.skip 78 rfl rfl rfl rfl ?_ | refine K.GL.skipU 78 rfl rfl rfl rfl ?_
                    first | refine K.GL.det (K.e_pick_t rfl rfl) rfl ?_ | refine K.GL.det (K.e_pick_f rfl rfl) rfl ?_
                    refine K.GL.det (K.e_move rfl) rfl ?_
                    first | refine K.GL.splitB 84 rfl (fun h9 => ?_) (fun h9 => ?_) | skip
                    all_goals first | exact absurd h9 (by decide) | replace h9 := of_decide_eq_true h9 | replace h9 := of_decide_eq_false h9 | skip
                    all_goals
                      first | (refine K.GL.want 84 rfl rfl rfl ?_; first | refine K.GL.det (K.e_move rfl) rfl ?_) | refine K.GL.skip 84 rfl rfl rfl rfl ?_ | refine K.GL.skipU 84 rfl rfl rfl rfl ?_
                      first | (refine K.GL.want 84 rfl rfl rfl ?_; first | refine K.GL.det (K.e_move rfl) rfl ?_) | refine K.GL.skip 84 rfl rfl rfl rfl ?_ | refine K.GL.skipU 84 rfl rfl rfl rfl ?_
                      refine K.GL.want 84 rfl rfl rfl ?_
                      refine gl_all Try.call32 rfl hk hz9 rfl (fun l87 a87 c87 hl87 => ?_)
                      have hn87 := all_len hl87
                      first | (refine K.GL.want 84 rfl rfl rfl ?_; first | refine K.GL.det (K.e_len Try.underlying53 rfl) rfl ?_) | refine K.GL.skip 84 rfl rfl rfl rfl ?_ | refine K.GL.skipU 84 rfl rfl rfl rfl ?_
                      first | (refine K.GL.want 84 rfl rfl rfl ?_; first | refine K.GL.det ((K.e_eq rfl rfl).yes (by omega)) rfl ?_) | refine K.GL.skip 84 rfl rfl rfl rfl ?_ | refine K.GL.skipU 84 rfl rfl rfl rfl ?_
                      first | refine K.GL.det (K.e_pick_t rfl rfl) rfl ?_ | refine K.GL.det (K.e_pick_f rfl rfl) rfl ?_
                      refine K.GL.det (K.e_assign rfl) rfl ?_
                      refine K.GL.nil ?_
                      refine K.GQ.go ?_
                      refine K.GC.ret ?_
                      refine K.GQ.ret1 Try.results7 rfl (fun w hT => ?_)
                      exact ⟨rfl, hT.nil⟩

set_option maxHeartbeats 1000000 in
set_option maxRecDepth 100000 in
theorem EntryParts_lifted (os : Os) (started : os.Started) (H : Type) (enc : TypeId × Value → H) :
    ReturnsInHanded {} Try.checked os 7 .any (Rows.entryPartsSpec.pre6 enc Try.prog Try.f7 Rows.entryPartsRow.domain false) (Rows.entryPartsSpec.post enc Try.prog Try.f7 false true false false) := by
  refine returnsInHanded_of_change_sized (C := Try.checked) own started (by kernel_rfl) Try.func7
    (ChangeSpec.witness6 (enc := enc) (C := Try.checked) false ⟨#[], #[.slice none 0 0], []⟩ 8 (by kernel_rfl) (by kernel_rfl) (by kernel_rfl) (by kernel_rfl)) ?_
  intro W base args ds gs before hval0 hW _ hsz0 _
  have hval : ∀ (j : Nat) t v, Try.f7.params[j]? = some t → args[j]? = some v → Value.okWide Try.prog W .any base t v := hval0
  have hsz : (DataW.weightsEach Try.prog (Try.f7.params.toList ++ []) (ds ++ gs)).all (· ≤ reachBytes) = true := hsz0
  have hW' := hW
  obtain ⟨p, q, hA0, hV, hpe, hfz, hnd⟩ := hW
  have hA : DataW.TrodAll enc Try.prog W 0 (fun _ => true) true Try.f7.params.toList args.toList ds p := hA0
  obtain ⟨rfl, rfl⟩ := trodVars_none hV
  rw [Try.params7] at hA hval hsz
  obtain ⟨v0, vs0, d0, ds0, p0, q0, hargs, rfl, rfl, h0, r0⟩ := trodAll_cons hA
  obtain ⟨rfl, rfl, rfl⟩ := trodAll_nil r0
  obtain rfl : args = #[v0] := by cases args; simp_all
  clear hA0 hval0 hsz0 hA hargs
  obtain ⟨ax, nx, cx, rfl⟩ := okWide_slice Try.underlying22 (hval 0 22 _ rfl rfl)
  obtain ⟨fuelx, hfx⟩ := h0
  obtain ⟨ax', nx', cx', lx, hcsx, hnx, hSx, hGx⟩ := open_ops hfx
  have hcsx' : Value.slice ax nx cx = .slice ax' nx' cx' := by simpa [Value.cells] using hcsx
  simp only [Value.slice.injEq] at hcsx'
  obtain ⟨rfl, rfl, rfl⟩ := hcsx'
  unfold maxLen at hnx
  have core : Calls Try.prog 7 #[.slice ax nx cx] W fun e W' => e = .returned (.bool true) ∧ Tr W [] W' [] := parts_any W hSx hGx (by omega)
  exact core.mono fun e W' ⟨he, hT⟩ => ⟨_, he, law_post (tb := 4) hW' rfl rfl Try.underlying4 (fun _ => rfl) laidOut (by kernel_rfl) hT.below⟩
theorem EntryParts_holds : Rows.EntryPartsSaid :=
  OpenClaim.holds_of_wide 7 Try.f7 rfl rfl rfl rfl rfl rfl rfl ⟨rfl, rfl, rfl, rfl, rfl⟩ rfl rfl rfl rfl rfl (by kernel_rfl) Try.func7 (by kernel_rfl)
    (of_decide_eq_true (by kernel_rfl)) (by unfold Func.isWrapper; first | (rw [if_pos (by decide +kernel)]; kernel_rfl) | (rw [if_neg (by decide +kernel)]; exact ⟨rfl, rfl⟩))
    (fun os started H enc _ => EntryParts_lifted os started H enc)

end Go.Proofs.Ytcphpcjcbmennaa
