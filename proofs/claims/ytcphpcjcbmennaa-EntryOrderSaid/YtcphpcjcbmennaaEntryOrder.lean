/- EntryOrder returns true for all calls, and turns nothing. -/
import Derived.ProofKit
import Derived.OpenShut
import Derived.SizedLaws
import Derived.Lib.SmallJoins
import Derived.Test.YtcphpcjcbmennaaRows
import Derived.Test.YtcphpcjcbmennaaEntL
import Derived.Test.YtcphpcjcbmennaaEntM
namespace Go.Proofs.Ytcphpcjcbmennaa
open Go Go.K Go.ChangeShapes Go.WideShapes Go.ChangeAt Go.RowKit Go.Joins
set_option linter.unusedVariables false
set_option linter.unusedSimpArgs false
attribute [local irreducible] Calls Ev GL GC GQ GR Code.wp
theorem own : ownKnob Try.prog.godebug = none := by kernel_rfl
theorem laidOut : laidOutB Try.prog = true := by kernel_rfl
theorem oe_get {l : List OE} {xs : List EX} (h : l.map OE.x = xs) {i : Nat} {o : OE} (ho : l[i]? = some o) : xs[i]? = some o.x := by rw [← h, List.getElem?_map, ho]; rfl
theorem sorted_at {k1 k2 : EX → Int} {l : List EX} {i j : Nat} {x y : EX} (hi : (sortX k1 k2 l)[i]? = some x) (hj : (sortX k1 k2 l)[j]? = some y) (hij : i < j) : posE k1 k2 x y = true := by
  obtain ⟨h1, e1⟩ := List.getElem?_eq_some_iff.1 hi
  obtain ⟨h2, e2⟩ := List.getElem?_eq_some_iff.1 hj
  have := List.pairwise_iff_getElem.1 (sortX_pairwise k1 k2 l) i j h1 h2 hij
  rw [e1, e2] at this
  exact this
theorem ids_at {l : List EX} (hn : (l.map EX.id).Nodup) {i j : Nat} {x y : EX} (hi : l[i]? = some x) (hj : l[j]? = some y) (hij : i ≠ j) : x.id ≠ y.id := fun e => by
  obtain ⟨h1, e1⟩ := List.getElem?_eq_some_iff.1 hi
  obtain ⟨h2, e2⟩ := List.getElem?_eq_some_iff.1 hj
  have := (List.pairwise_map.1 (List.nodup_iff_pairwise_ne.1 hn))
  rw [List.pairwise_iff_getElem] at this
  rcases Nat.lt_or_gt_of_ne hij with h | h
  · exact this i j h1 h2 h (by rw [e1, e2]; exact e)
  · exact this j i h2 h1 h (by rw [e1, e2]; exact e.symm)
theorem all_ids {g : IG} (hk : g.Ok) : (g.all.map EX.id).Nodup := ((sortX_perm _ _ _).map EX.id).nodup_iff.2 hk.ids
theorem order_prev {g : IG} (hk : g.Ok) {l : List OE} (hl : l.map OE.x = g.all) {i : Nat} {o : OE} (ho : l[i]? = some o) :
    i = 0 ∨ (∃ o1, l[i - 1]? = some o1 ∧ 0 < i ∧ o1.x.tick < o.x.tick) ∨ (∃ o1, l[i - 1]? = some o1 ∧ 0 < i ∧ o1.x.tick = o.x.tick ∧ o1.x.id < o.x.id) := by
  rcases Nat.eq_zero_or_pos i with h0 | h0
  · exact .inl h0
  · have hi := (List.getElem?_eq_some_iff.1 ho).1
    obtain ⟨o1, ho1⟩ : ∃ o1, l[i - 1]? = some o1 := get_ex (by omega)
    have h1 := sorted_at (oe_get hl ho1) (oe_get hl ho) (by omega)
    rw [posE_iff] at h1
    have h2 := ids_at (all_ids hk) (oe_get hl ho1) (oe_get hl ho) (by omega)
    rcases h1 with h1 | ⟨h1, h3⟩
    · exact .inr (.inl ⟨o1, ho1, h0, h1⟩)
    · exact .inr (.inr ⟨o1, ho1, h0, h1, by omega⟩)
theorem in_mem {g : IG} {s : Int} {e : EX} (h : e ∈ g.in_ s) : e ∈ g.ents ∧ e.seq = s := by
  have := (sortX_perm _ _ _).mem_iff.1 h
  rw [List.mem_filter] at this
  exact ⟨this.1, of_decide_eq_true this.2⟩
theorem in_get {g : IG} (hk : g.Ok) {s : Int} {e : EX} (h : e ∈ g.in_ s) : xget e.id g.ents = some e := xget_some hk.ids (in_mem h).1 rfl
theorem only_one {l : List EX} (hn : (l.map EX.id).Nodup) {x : EX} (hx : x ∈ l) : l.filter (fun e => decide (e.id = x.id)) = [x] := by
  induction l with
  | nil => cases hx
  | cons z l ih =>
    rw [List.map_cons, List.nodup_cons] at hn
    rcases List.mem_cons.1 hx with h | h
    · subst h
      rw [List.filter_cons_of_pos (by simp), List.filter_eq_nil_iff.2]
      intro e he hd
      exact hn.1 (List.mem_map.2 ⟨e, he, by simpa using hd⟩)
    · rw [List.filter_cons_of_neg, ih hn.2 h]
      intro hd
      exact hn.1 (List.mem_map.2 ⟨x, h, by simpa using (of_decide_eq_true hd).symm⟩)
theorem own_one {g : IG} (hk : g.Ok) {x : EX} (hx : x ∈ g.ents) : ((g.in_ x.seq).filter fun e => decide (e.id = x.id)).length = 1 := by
  have h1 : ((g.in_ x.seq).filter fun e => decide (e.id = x.id)).Perm ((g.ents.filter fun e => decide (e.seq = x.seq)).filter fun e => decide (e.id = x.id)) := (sortX_perm _ _ _).filter _
  rw [h1.length_eq, only_one (hk.ids.sublist (List.filter_sublist.map _)) (List.mem_filter.2 ⟨hx, by simp⟩)]
  rfl
theorem all_mem {g : IG} {l : List OE} (hl : l.map OE.x = g.all) {i : Nat} {o : OE} (ho : l[i]? = some o) : o.x ∈ g.ents :=
  (sortX_perm _ _ _).mem_iff.1 (List.mem_of_getElem? (oe_get hl ho))
theorem count_next {B : List EX} {y : Nat} {e : EX} (he : B[y]? = some e) (p : EX → Bool) : ((B.take (y + 1)).filter p).length = ((B.take y).filter p).length + (if p e then 1 else 0) := by
  rw [List.take_add_one, he]
  show (List.filter p (B.take y ++ [e])).length = _
  rw [filter_snoc, List.length_append]
  split <;> rfl
theorem idsV_get {l : List EX} {o x : Nat} {e : EX} (h : l[x]? = some e) (ho : o = x) : (idsV l)[o]? = some (.int .i64 e.id) := by
  subst ho; unfold idsV; rw [List.getElem?_map, h]; rfl
theorem last_le {g : IG} {s : Int} {y : Nat} {lv : Int} {e : EX} (he : (g.in_ s)[y]? = some e) (h : 0 < y → ∃ e', (g.in_ s)[y - 1]? = some e' ∧ lv = e'.at_) : y = 0 ∨ lv ≤ e.at_ := by
  rcases Nat.eq_zero_or_pos y with h0 | h0
  · exact .inl h0
  · obtain ⟨e', h1, rfl⟩ := h h0
    have := sorted_at h1 he (by omega)
    rw [posE_iff] at this
    exact .inr (by omega)

theorem all_len {g : IG} {l : List OE} (hl : l.map OE.x = g.all) : l.length = g.es.length := by rw [← IG.all_length, ← hl, List.length_map]

/- turntable/turntablelaw14.EntryOrder -/
set_option maxHeartbeats 8000000 in
set_option maxRecDepth 100000 in
theorem order_any {a : Option Addr} {n c : Nat} {l : List OX} (w : World) (hL : Sl w 20 a n (l.flatMap encP)) (hG : ∀ q ∈ l, OGood w q) (hn : n ≤ 9223372036854775807) :
    Calls Try.prog 6 #[.slice a n c] w fun e w' => e = .returned (.bool true) ∧ Tr w [] w' [] := by
  have hl : l.length = n := hL.count (by omega) encP_len
  refine K.enter0 (args := [_]) Try.func6 rfl Try.ntmps6 rfl ?_
  refine K.GC.seq ?_
  refine K.GC.region ?_
  refine K.GL.det (K.e_assign rfl) rfl ?_
  refine K.GL.nil ?_
  refine K.GQ.go ?_
  refine K.GC.seq ?_
  refine K.GC.region ?_
  refine K.GL.det (K.e_call1 Try.call9 rfl (fun w hT => head_con)) rfl ?_
  refine K.GL.det (K.e_assign rfl) rfl ?_
  refine K.GL.nil ?_
  refine K.GQ.go ?_
  refine K.GC.seq ?_
  refine K.GC.region ?_
  refine gl_new Try.call10 rfl rfl (fun d g1 hk1 hv1 => ?_)
  refine K.GL.det (K.e_assign rfl) rfl ?_
  refine K.GL.nil ?_
  refine K.GQ.go ?_
  refine K.GC.seq ?_
  refine K.GC.seq ?_
  refine K.GC.region ?_
  refine K.GL.det (K.e_move rfl) rfl ?_
  refine K.GL.det ((K.e_eqlp Try.underlying24 rfl rfl).cast_bool (b := false) rfl) rfl ?_
  refine K.GL.det (K.e_move rfl) rfl ?_
  first | refine K.GL.splitB 20 rfl (fun h1 => ?_) (fun h1 => ?_) | skip
  all_goals first | exact absurd h1 (by decide) | replace h1 := of_decide_eq_true h1 | replace h1 := of_decide_eq_false h1 | skip
  all_goals
    first | (refine K.GL.want 20 rfl rfl rfl ?_; first | refine K.GL.det (K.e_move rfl) rfl ?_) | refine K.GL.skip 20 rfl rfl rfl rfl ?_ | refine K.GL.skipU 20 rfl rfl rfl rfl ?_
    refine K.GL.want 20 rfl rfl rfl ?_
    refine gl_great (l := l) Try.call11 rfl (fun w hT => ⟨hL.stay hT (fun r hr => by cases hr), fun q hq => (hG q hq).e.sl.stay hT (fun r hr => by cases hr)⟩) (by omega) (fun q hq => (hG q hq).e.lt) rfl (fun gr22 hg22 => ?_)
    rcases gr22 with _ | _
    all_goals
      first | refine K.GL.det (K.e_pick_t rfl rfl) rfl ?_ | refine K.GL.det (K.e_pick_f rfl rfl) rfl ?_
      refine K.GL.nil ?_
      refine K.GQ.go ?_
      refine K.GC.condB rfl (fun h2 => ?_) (fun h2 => ?_)
      · first
        | exact absurd h2 (by decide)
        | try replace h2 := of_decide_eq_true h2
          refine K.GC.seq ?_
          refine K.GC.region ?_
          refine K.GL.det (K.e_move rfl) rfl ?_
          refine K.GL.det ((K.e_neqp Try.underlying24 rfl rfl).cast_bool (b := true) rfl) rfl ?_
          refine K.GL.det (K.e_move rfl) rfl ?_
          first | refine K.GL.splitB 26 rfl (fun h3 => ?_) (fun h3 => ?_) | skip
          all_goals first | exact absurd h3 (by decide) | replace h3 := of_decide_eq_true h3 | replace h3 := of_decide_eq_false h3 | skip
          all_goals
            first | (refine K.GL.want 26 rfl rfl rfl ?_; first | refine K.GL.det (K.e_move rfl) rfl ?_) | refine K.GL.skip 26 rfl rfl rfl rfl ?_ | refine K.GL.skipU 26 rfl rfl rfl rfl ?_
            first | refine K.GL.det (K.e_pick_t rfl rfl) rfl ?_ | refine K.GL.det (K.e_pick_f rfl rfl) rfl ?_
            refine K.GL.det (K.e_assign rfl) rfl ?_
            refine K.GL.nil ?_
            refine K.GQ.go ?_
            refine K.GC.ret ?_
            refine K.GQ.then_ret ?_
            refine K.GQ.ret1 Try.results6 rfl (fun w hT => ?_)
            exact ⟨rfl, hT.nil⟩
      · first
        | exact absurd h2 (by decide)
        | try replace h2 := of_decide_eq_false h2
          refine K.GC.skip ?_
          refine K.GQ.go ?_
          refine K.GC.seq ?_
          refine K.GC.seq ?_
          have hgs := hg22 rfl
          refine K.GC.region ?_
          refine K.GL.det (K.e_assign rfl) rfl ?_
          refine K.GL.nil ?_
          refine K.GQ.go ?_
          refine K.GC.block ?_
          refine K.GC.loopk (α := Nat × IG) [0, 2, 3, 4, 6, 7, 8, 9, 10, 11, 12, 13, 14, 15, 42, 43, 44, 45, 46, 47, 48, 49, 50, 51, 52, 53, 54, 55, 56, 57, 58, 59, 60, 61, 62, 63, 64, 65, 66, 67, 68, 69, 70, 71, 72, 73, 74, 75, 76, 77, 78, 79, 80, 81, 82, 83, 84, 85, 86, 87, 88, 89, 90, 91, 92, 93, 94, 95, 96, 97, 98, 99, 100, 101, 102, 103, 104, 105, 106, 107, 108, 109, 110, 111, 112, 113, 114, 115, 116, 117, 118, 119, 120, 121, 122, 123, 124, 125, 126, 127, 128, 129, 130, 131, 132, 133, 134, 135, 136, 137, 138, 139, 140, 141, 142, 143, 144, 145, 146, 147, 148, 149, 150, 151, 152, 153, 154, 155, 156, 157, 158, 159, 160, 161, 162, 163, 164, 165, 166, 167, 168, 169, 170, 171, 172] rfl (fun x => [(5, .int .i64 (x.1 : Int))]) (fun x => [IdxR d x.2]) (fun x => x.1 ≤ n ∧ x.2.Ok ∧ x.2.es.length ≤ x.1) (fun x => (n - x.1)) (0, g1) ⟨Nat.zero_le _, hk1, by rw [← IG.ents_length, hv1]; exact Nat.le_refl _⟩ (by (repeat refine ⟨rfl, ?_⟩); exact trivial) (K.Sub.refl _) (fun x hI => ?_)
          obtain ⟨x, g⟩ := x
          obtain ⟨hx, hk, hz⟩ := hI
          simp only at hx hk hz ⊢
          refine K.GC.seq ?_
          refine K.GC.seq ?_
          refine K.GC.region ?_
          refine K.GL.det (K.e_move rfl) rfl ?_
          refine K.GL.det (K.e_move rfl) rfl ?_
          refine K.GL.det (K.e_len Try.underlying22 rfl) rfl ?_
          first | refine K.GL.det ((K.e_lt rfl rfl).yes (by first | omega | assumption | decide +kernel)) rfl ?_ | refine K.GL.det ((K.e_lt rfl rfl).no (by first | omega | assumption | decide +kernel)) rfl ?_ | refine K.GL.det (K.e_lt rfl rfl) rfl ?_
          refine K.GL.nil ?_
          refine K.GQ.go ?_
          refine K.GC.condB rfl (fun h4 => ?_) (fun h4 => ?_)
          · first
            | exact absurd h4 (by decide)
            | try replace h4 := of_decide_eq_true h4
              refine K.GC.skip ?_
              refine K.GQ.go ?_
              refine K.GC.seq ?_
              refine K.GC.block ?_
              obtain ⟨q, hq⟩ : ∃ q, l[x]? = some q := get_ex (by omega)
              refine K.GC.region ?_
              refine K.GL.det (K.e_move rfl) rfl ?_
              refine K.GL.det (K.e_move rfl) rfl ?_
              refine K.GL.det (K.e_move rfl) rfl ?_
              refine K.GL.det (K.e_indexAddrS sl22 rfl rfl hL (by omega) (by omega)) rfl ?_
              refine K.GL.det (K.e_fieldAddr fo35_1 rfl) rfl ?_
              refine K.GL.det (K.e_loadsw (vs := encE q.e q.ea q.ec) Try.isAgg33 Try.sizeOf33 rfl (fun w hT j v hj => hT.cell0 (op_ent hL hq j v hj)) rfl) rfl ?_
              refine gl_put (x := q.e) (a0 := q.ea) (c0 := q.ec) (was := (xget q.e.id g.ents).isSome) Try.call17 rfl hk rfl (fun w hT => ⟨(hG q (List.mem_of_getElem? hq)).e.sl.stay hT (fun r hr => by cases hr), fun h0 => apart_old (hG q (List.mem_of_getElem? hq)).e.sl (by omega) hT PickI.mem h0⟩) (hG q (List.mem_of_getElem? hq)).e.id (hgs.2 q (List.mem_of_getElem? hq)) rfl (fun g2 hk2 hv2 => ?_)
              refine K.GL.nil ?_
              refine K.GQ.block_normal ?_
              refine K.GQ.go ?_
              refine K.GC.region ?_
              refine K.GL.det (K.e_move rfl) rfl ?_
              first | refine K.GL.det (K.e_add rfl rfl ⟨by omega, by omega⟩) rfl ?_ | refine K.GL.det (K.e_addw rfl rfl) rfl ?_
              refine K.GL.det (K.e_assign rfl) rfl ?_
              refine K.GL.nil ?_
              exact K.GQ.round (x + 1, g2) ⟨by simp only; omega, hk2, put_len hz hv2⟩ (by simp only; omega) (by (repeat refine ⟨rfl, ?_⟩); exact trivial) (Sub.take (i := 0) rfl (Sub.nil _))
          · first
            | exact absurd h4 (by decide)
            | try replace h4 := of_decide_eq_false h4
              refine K.GC.exit ?_
              refine K.GQ.then_exit ?_
              refine K.GQ.then_exit ?_
              refine K.GQ.block_hit ?_
              refine K.GQ.go ?_
              refine K.GC.seq ?_
              have hz9 : g.es.length ≤ 9000 := by omega
              refine K.GC.region ?_
              refine K.GL.det (K.e_move rfl) rfl ?_
              refine gl_all Try.call32 rfl hk hz9 rfl (fun l43 a43 c43 hl43 => ?_)
              have hn43 := all_len hl43
              refine K.GL.fact (p := 0 < l43.length → a43 = some ⟨bk a43, of_ a43, none⟩) (fun w hT => (hT.sl_row (k := 13) (n := l43.length) HasW.mem (by omega) (oe_flat_length _)).base) (fun hb43 => ?_)
              refine K.GL.det (K.e_assign rfl) rfl ?_
              refine K.GL.nil ?_
              refine K.GQ.go ?_
              refine K.GC.seq ?_
              refine K.GC.region ?_
              refine K.GL.det (K.e_move rfl) rfl ?_
              refine gl_items Try.call35 rfl hk hz9 rfl (fun a45 c45 => ?_)
              refine K.GL.fact (p := 0 < g.all.length → a45 = some ⟨bk a45, of_ a45, none⟩) (fun w hT => (hT.sl_row (k := 5) (n := g.all.length) HasW.mem (by omega) (it_flat_length _)).base) (fun hb45 => ?_)
              refine K.GL.det (K.e_assign rfl) rfl ?_
              refine K.GL.nil ?_
              refine K.GQ.go ?_
              refine K.GC.seq ?_
              refine K.GC.seq ?_
              have hla := IG.all_length g
              have hle := IG.ents_length g
              refine K.GC.region ?_
              refine K.GL.det (K.e_move rfl) rfl ?_
              refine K.GL.det (K.e_len Try.underlying53 rfl) rfl ?_
              refine K.GL.det (K.e_move rfl) rfl ?_
              refine K.GL.det (K.e_call1 Try.call26 rfl (fun w hT => many_con (hT.ok _ PickI.mem))) rfl ?_
              refine K.GL.det ((K.e_ne rfl rfl).no (by omega)) rfl ?_
              refine K.GL.det (K.e_move rfl) rfl ?_
              first | refine K.GL.splitB 51 rfl (fun h5 => ?_) (fun h5 => ?_) | skip
              all_goals first | exact absurd h5 (by decide) | replace h5 := of_decide_eq_true h5 | replace h5 := of_decide_eq_false h5 | skip
              all_goals
                first | (refine K.GL.want 51 rfl rfl rfl ?_; first | refine K.GL.det (K.e_move rfl) rfl ?_) | refine K.GL.skip 51 rfl rfl rfl rfl ?_ | refine K.GL.skipU 51 rfl rfl rfl rfl ?_
                first | (refine K.GL.want 51 rfl rfl rfl ?_; first | refine K.GL.det (K.e_len Try.underlying56 rfl) rfl ?_) | refine K.GL.skip 51 rfl rfl rfl rfl ?_ | refine K.GL.skipU 51 rfl rfl rfl rfl ?_
                first | (refine K.GL.want 51 rfl rfl rfl ?_; first | refine K.GL.det (K.e_move rfl) rfl ?_) | refine K.GL.skip 51 rfl rfl rfl rfl ?_ | refine K.GL.skipU 51 rfl rfl rfl rfl ?_
                first | (refine K.GL.want 51 rfl rfl rfl ?_; first | refine K.GL.det (K.e_len Try.underlying53 rfl) rfl ?_) | refine K.GL.skip 51 rfl rfl rfl rfl ?_ | refine K.GL.skipU 51 rfl rfl rfl rfl ?_
                first | (refine K.GL.want 51 rfl rfl rfl ?_; first | refine K.GL.det ((K.e_ne rfl rfl).no (by omega)) rfl ?_) | refine K.GL.skip 51 rfl rfl rfl rfl ?_ | refine K.GL.skipU 51 rfl rfl rfl rfl ?_
                first | refine K.GL.det (K.e_pick_t rfl rfl) rfl ?_ | refine K.GL.det (K.e_pick_f rfl rfl) rfl ?_
                refine K.GL.nil ?_
                refine K.GQ.go ?_
                refine K.GC.condB rfl (fun h6 => ?_) (fun h6 => ?_)
                · first
                  | exact absurd h6 (by decide)
                  | try replace h6 := of_decide_eq_true h6
                    refine K.GC.seq ?_
                    refine K.GC.region ?_
                    refine K.GL.det (K.e_assign rfl) rfl ?_
                    refine K.GL.nil ?_
                    refine K.GQ.go ?_
                    refine K.GC.ret ?_
                    refine K.GQ.then_ret ?_
                    refine K.GQ.ret1 Try.results6 rfl (fun w hT => ?_)
                    exact ⟨rfl, hT.nil⟩
                · first
                  | exact absurd h6 (by decide)
                  | try replace h6 := of_decide_eq_false h6
                    refine K.GC.skip ?_
                    refine K.GQ.go ?_
                    refine K.GC.seq ?_
                    refine K.GC.seq ?_
                    refine K.GC.region ?_
                    refine K.GL.det (K.e_assign rfl) rfl ?_
                    refine K.GL.nil ?_
                    refine K.GQ.go ?_
                    refine K.GC.block ?_
                    refine K.GC.loopk (α := Nat) [3, 4, 6, 7, 172] rfl (fun x => [(8, .int .i64 (x : Int))]) (fun x => [row a45 c45 5 28 (g.all.flatMap encI), row a43 c43 13 33 (l43.flatMap OE.enc), IdxR d g]) (fun x => x ≤ l43.length) (fun x => (l43.length - x)) 0 (Nat.zero_le _) (by (repeat refine ⟨rfl, ?_⟩); exact trivial) (Sub.take (i := 0) rfl (Sub.take (i := 0) rfl (Sub.take (i := 1) rfl (Sub.nil _)))) (fun x hI => ?_)
                    have hx := hI
                    refine K.GC.seq ?_
                    refine K.GC.seq ?_
                    refine K.GC.region ?_
                    refine K.GL.det (K.e_move rfl) rfl ?_
                    refine K.GL.det (K.e_move rfl) rfl ?_
                    refine K.GL.det (K.e_len Try.underlying53 rfl) rfl ?_
                    first | refine K.GL.det ((K.e_lt rfl rfl).yes (by first | omega | assumption | decide +kernel)) rfl ?_ | refine K.GL.det ((K.e_lt rfl rfl).no (by first | omega | assumption | decide +kernel)) rfl ?_ | refine K.GL.det (K.e_lt rfl rfl) rfl ?_
                    refine K.GL.nil ?_
                    refine K.GQ.go ?_
                    refine K.GC.condB rfl (fun h7 => ?_) (fun h7 => ?_)
                    · first
                      | exact absurd h7 (by decide)
                      | try replace h7 := of_decide_eq_true h7
                        refine K.GC.skip ?_
                        refine K.GQ.go ?_
                        refine K.GC.seq ?_
                        refine K.GC.block ?_
                        refine K.GC.seq ?_
                        obtain ⟨o, ho⟩ : ∃ o, l43[x]? = some o := get_ex (by omega)
                        have hox := oe_get hl43 ho
                        have hin9 := IG.in_length g o.x.seq
                        refine K.GC.region ?_
                        refine K.GL.det (K.e_move rfl) rfl ?_
                        refine K.GL.det (K.e_move rfl) rfl ?_
                        refine K.GL.det (K.e_indexAddrB sl53 rfl rfl hb43 (by omega) (by omega)) rfl ?_
                        refine K.GL.det (K.e_loadsw (vs := encE o.x o.a o.c) Try.isAgg33 Try.sizeOf33 rfl (fun w hT => (hT.sl_row (k := 13) (n := l43.length) HasW.mem (by omega) (oe_flat_length _)).item encO_len ho) rfl) rfl ?_
                        refine K.GL.alloc Try.zeroValue33 rfl rfl (fun b9 => ?_)
                        refine K.GL.store rfl rfl rfl Try.sizeOf33 rfl rfl ?_
                        refine K.GL.nil ?_
                        refine K.GQ.go ?_
                        refine K.GC.seq ?_
                        refine K.GC.seq ?_
                        refine K.GC.drawn 50 [[], [], [0, 1], [0, 1, 2], [], [4], [0, 1, 2, 3, 4, 5], [0, 1, 2, 3, 4, 5, 6], [0, 1, 2, 3, 4, 5, 6, 7], [0, 1, 2, 3, 4, 5, 6, 7, 8], [0, 1, 2, 3, 4, 5, 6, 7, 8, 9], [0, 1, 2, 3, 4, 5, 6, 7, 8, 9, 10], [0, 1, 2, 3, 4, 5, 6, 7, 8, 9, 10], [0, 1, 2, 3, 4, 5, 6, 7, 8, 9, 10, 12], [0, 1, 2, 3, 4, 5, 6, 7, 8, 9, 10, 11, 12, 13], [0, 1, 2, 3, 4, 5, 6, 7, 8, 9, 10, 11, 12, 13, 14], [0, 1, 2, 3, 4, 5, 6, 7, 8, 9, 10, 11, 12, 13, 14, 15], [0, 1, 2, 3, 4, 5, 6, 7, 8, 9, 10, 11, 12, 13, 14, 15, 16], [0, 1, 2, 3, 4, 5, 6, 7, 8, 9, 10], [0, 1, 2, 3, 4, 5, 6, 7, 8, 9, 10, 18], [0, 1, 2, 3, 4, 5, 6, 7, 8, 9, 10, 18, 19], [0, 1, 2, 3, 4, 5, 6, 7, 8, 9, 10, 11, 12, 13, 14, 15, 16, 17, 18, 19, 20], [0, 1, 2, 3, 4, 5, 6, 7, 8, 9, 10, 11, 12, 13, 14, 15, 16, 17, 18, 19, 20, 21], [0, 1, 2, 3, 4, 5, 6, 7, 8, 9, 10, 11, 12, 13, 14, 15, 16, 17, 18, 19, 20, 21, 22], [0, 1, 2, 3, 4, 5, 6, 7, 8, 9, 10, 11, 12, 13, 14, 15, 16, 17, 18, 19, 20, 21, 22], [0, 1, 2, 3, 4, 5, 6, 7, 8, 9, 10, 11, 12, 13, 14, 15, 16, 17, 18, 19, 20, 21, 22, 24], [0, 1, 2, 3, 4, 5, 6, 7, 8, 9, 10, 11, 12, 13, 14, 15, 16, 17, 18, 19, 20, 21, 22, 23, 24, 25], [0, 1, 2, 3, 4, 5, 6, 7, 8, 9, 10, 11, 12, 13, 14, 15, 16, 17, 18, 19, 20, 21, 22, 23, 24, 25, 26], [0, 1, 2, 3, 4, 5, 6, 7, 8, 9, 10, 11, 12, 13, 14, 15, 16, 17, 18, 19, 20, 21, 22, 23, 24, 25, 26, 27], [0, 1, 2, 3, 4, 5, 6, 7, 8, 9, 10, 11, 12, 13, 14, 15, 16, 17, 18, 19, 20, 21, 22, 23, 24, 25, 26, 27, 28], [0, 1, 2, 3, 4, 5, 6, 7, 8, 9, 10, 11, 12, 13, 14, 15, 16, 17, 18, 19, 20, 21, 22], [0, 1, 2, 3, 4, 5, 6, 7, 8, 9, 10, 11, 12, 13, 14, 15, 16, 17, 18, 19, 20, 21, 22, 30], [0, 1, 2, 3, 4, 5, 6, 7, 8, 9, 10, 11, 12, 13, 14, 15, 16, 17, 18, 19, 20, 21, 22, 30, 31], [0, 1, 2, 3, 4, 5, 6, 7, 8, 9, 10, 11, 12, 13, 14, 15, 16, 17, 18, 19, 20, 21, 22, 23, 24, 25, 26, 27, 28, 29, 30, 31, 32], [0, 1, 2, 3, 4, 5, 6, 7, 8, 9, 10, 11, 12, 13, 14, 15, 16, 17, 18, 19, 20, 21, 22, 23, 24, 25, 26, 27, 28, 29, 30, 31, 32, 33], [0, 1, 2, 3, 4, 5, 6, 7, 8, 9, 10, 11, 12, 13, 14, 15, 16, 17, 18, 19, 20, 21, 22, 23, 24, 25, 26, 27, 28, 29, 30, 31, 32, 33, 34], [0, 1, 2, 3, 4, 5, 6, 7, 8, 9, 10, 11, 12, 13, 14, 15, 16, 17, 18, 19, 20, 21, 22, 23, 24, 25, 26, 27, 28, 29, 30, 31, 32, 33, 34], [0, 1, 2, 3, 4, 5, 6, 7, 8, 9, 10, 11, 12, 13, 14, 15, 16, 17, 18, 19, 20, 21, 22, 23, 24, 25, 26, 27, 28, 29, 30, 31, 32, 33, 34, 36], [0, 1, 2, 3, 4, 5, 6, 7, 8, 9, 10, 11, 12, 13, 14, 15, 16, 17, 18, 19, 20, 21, 22, 23, 24, 25, 26, 27, 28, 29, 30, 31, 32, 33, 34, 35, 36, 37], [0, 1, 2, 3, 4, 5, 6, 7, 8, 9, 10, 11, 12, 13, 14, 15, 16, 17, 18, 19, 20, 21, 22, 23, 24, 25, 26, 27, 28, 29, 30, 31, 32, 33, 34, 35, 36, 37, 38], [0, 1, 2, 3, 4, 5, 6, 7, 8, 9, 10, 11, 12, 13, 14, 15, 16, 17, 18, 19, 20, 21, 22, 23, 24, 25, 26, 27, 28, 29, 30, 31, 32, 33, 34, 35, 36, 37, 38, 39], [0, 1, 2, 3, 4, 5, 6, 7, 8, 9, 10, 11, 12, 13, 14, 15, 16, 17, 18, 19, 20, 21, 22, 23, 24, 25, 26, 27, 28, 29, 30, 31, 32, 33, 34, 35, 36, 37, 38, 39, 40], [0, 1, 2, 3, 4, 5, 6, 7, 8, 9, 10, 11, 12, 13, 14, 15, 16, 17, 18, 19, 20, 21, 22, 23, 24, 25, 26, 27, 28, 29, 30, 31, 32, 33, 34], [0, 1, 2, 3, 4, 5, 6, 7, 8, 9, 10, 11, 12, 13, 14, 15, 16, 17, 18, 19, 20, 21, 22, 23, 24, 25, 26, 27, 28, 29, 30, 31, 32, 33, 34, 42], [0, 1, 2, 3, 4, 5, 6, 7, 8, 9, 10, 11, 12, 13, 14, 15, 16, 17, 18, 19, 20, 21, 22, 23, 24, 25, 26, 27, 28, 29, 30, 31, 32, 33, 34, 42, 43], [0, 1, 2, 3, 4, 5, 6, 7, 8, 9, 10, 11, 12, 13, 14, 15, 16, 17, 18, 19, 20, 21, 22, 23, 24, 25, 26, 27, 28, 29, 30, 31, 32, 33, 34, 35, 36, 37, 38, 39, 40, 41, 42, 43, 44], [0, 1, 2, 3, 4, 5, 6, 7, 8, 9, 10, 11, 12, 13, 14, 15, 16, 17, 18, 19, 20, 21, 22, 23, 24, 25, 26, 27, 28, 29, 30, 31, 32, 33, 34, 35, 36, 37, 38, 39, 40, 41, 42, 43, 44, 45], [0, 1, 2, 3, 4, 5, 6, 7, 8, 9, 10, 11, 12, 13, 14, 15, 16, 17, 18, 19, 20, 21, 22, 23, 24, 25, 26, 27, 28, 29, 30, 31, 32, 33, 34, 35, 36, 37, 38, 39, 40, 41, 42, 43, 44, 45, 46], [0, 1, 2, 3, 4, 5, 6, 7, 8, 9, 10, 11, 12, 13, 14, 15, 16, 17, 18, 19, 20, 21, 22, 23, 24, 25, 26, 27, 28, 29, 30, 31, 32, 33, 34, 35, 36, 37, 38, 39, 40, 41, 42, 43, 44, 45, 46, 47], [0, 1, 2, 3, 4, 5, 6, 7, 8, 9, 10, 11, 12, 13, 14, 15, 16, 17, 18, 19, 20, 21, 22, 23, 24, 25, 26, 27, 28, 29, 30, 31, 32, 33, 34, 35, 36, 37, 38, 39, 40, 41, 42, 43, 44, 45, 46, 47, 48]] [[], [], [0, 1], [2], [], [4], [3, 5], [6], [7], [7, 8], [7, 9], [10], [10], [10, 12], [10, 11, 13], [10, 14], [10, 15], [10, 16], [10], [10, 18], [10, 19], [10, 17, 20], [10, 21], [22], [22], [22, 24], [22, 23, 25], [22, 26], [22, 27], [22, 28], [22], [22, 30], [22, 31], [22, 29, 32], [22, 33], [34], [34], [34, 36], [34, 35, 37], [34, 38], [34, 39], [34, 40], [34], [34, 42], [34, 43], [34, 41, 44], [22, 34, 45], [10, 22, 46], [7, 10, 47], [7, 48]] [2, 3, 4, 6, 7, 8, 9, 10, 11, 12, 13, 14, 15, 58, 59, 60, 61, 62, 63, 64, 65, 66, 67, 118, 119, 120, 121, 122, 123, 124, 125, 126, 127, 128, 129, 130, 131, 132, 133, 134, 135, 136, 137, 138, 139, 140, 141, 142, 143, 144, 145, 146, 147, 148, 149, 150, 151, 152, 153, 154, 155, 156, 157, 158, 159, 160, 161, 162, 163, 164, 165, 166, 167, 168, 169, 170, 171, 172] (by kernel_rfl) (by kernel_rfl) rfl ?_
                        rcases order_prev hk hl43 ho with hx0 | ⟨o1, ho1, hx0, ht⟩ | ⟨o1, ho1, hx0, ht, hi⟩
                        all_goals
                          refine K.DW.det rfl (fun vs => K.e_move rfl) ?_
                          refine K.DW.det rfl (fun vs => K.e_move rfl) ?_
                          refine K.DW.det rfl (fun vs => K.e_indexAddrB sl56 rfl rfl hb45 (by omega) (by omega)) ?_
                          refine K.DW.det rfl (fun vs => K.e_loadsw (vs := encI o.x) Try.isAgg28 Try.sizeOf28 rfl (fun w hT => (hT.sl_row (k := 5) (n := g.all.length) HasW.mem (by omega) (it_flat_length _)).item encI_len hox) rfl) ?_
                          refine K.DW.det rfl (fun vs => K.e_fieldAddr fo33_0 rfl) ?_
                          refine K.DW.det rfl (fun vs => K.e_loads Try.isAgg28 Try.sizeOf28 rfl rfl) ?_
                          refine K.DW.det rfl (fun vs => (K.e_neStruct (xs := encI o.x) (ys := encI o.x) (by kernel_rfl) rfl rfl (fun w => run_eqI w _ _)).no (not_not_intro rfl)) ?_
                          refine K.DW.det rfl (fun vs => K.e_move rfl) ?_
                          first | (refine K.DW.want (fun _ => rfl) ?_; first | refine K.DW.det rfl (fun vs => K.e_move rfl) ?_) | refine K.DW.skip (fun _ => rfl) ?_
                          first | (refine K.DW.want (fun _ => rfl) ?_; first | refine K.DW.det rfl (fun vs => (K.e_gt rfl rfl).yes (by first | omega | assumption | decide +kernel)) ?_ | refine K.DW.det rfl (fun vs => (K.e_gt rfl rfl).no (by first | omega | assumption | decide +kernel)) ?_ | refine K.DW.det rfl (fun vs => K.e_gt rfl rfl) ?_) | refine K.DW.skip (fun _ => rfl) ?_
                          first | (refine K.DW.want (fun _ => rfl) ?_; first | refine K.DW.det rfl (fun vs => K.e_move rfl) ?_) | refine K.DW.skip (fun _ => rfl) ?_
                          first | (refine K.DW.want (fun _ => rfl) ?_; first | refine K.DW.det rfl (fun vs => K.e_move rfl) ?_) | refine K.DW.skip (fun _ => rfl) ?_
                          first | (refine K.DW.want (fun _ => rfl) ?_; first | refine K.DW.det rfl (fun vs => K.e_move rfl) ?_) | refine K.DW.skip (fun _ => rfl) ?_
                          first | (refine K.DW.want (fun _ => rfl) ?_; first | refine K.DW.det rfl (fun vs => (K.e_sub rfl rfl ⟨by omega, by omega⟩).cast_int (b := ((x - 1 : Nat) : Int)) (by omega)) ?_) | refine K.DW.skip (fun _ => rfl) ?_
                          first | (refine K.DW.want (fun _ => rfl) ?_; first | refine K.DW.det rfl (fun vs => K.e_indexAddrB sl53 rfl rfl hb43 (by omega) (by omega)) ?_) | refine K.DW.skip (fun _ => rfl) ?_
                          first | (refine K.DW.want (fun _ => rfl) ?_; first | refine K.DW.det rfl (fun vs => K.e_fieldAddr fo33_0 rfl) ?_) | refine K.DW.skip (fun _ => rfl) ?_
                          first | (refine K.DW.want (fun _ => rfl) ?_; first | refine K.DW.det rfl (fun vs => K.e_fieldAddr fo28_2 rfl) ?_) | refine K.DW.skip (fun _ => rfl) ?_
                          first | (refine K.DW.want (fun _ => rfl) ?_; first | refine K.DW.det rfl (fun vs => K.e_loadw Try.isAgg2 rfl (fun w hT => (hT.sl_row (k := 13) (n := l43.length) HasW.mem (by omega) (oe_flat_length _)).item encO_len ho1 2 _ rfl)) ?_) | refine K.DW.skip (fun _ => rfl) ?_
                          first | (refine K.DW.want (fun _ => rfl) ?_; first | refine K.DW.det rfl (fun vs => K.e_fieldAddr fo33_0 rfl) ?_) | refine K.DW.skip (fun _ => rfl) ?_
                          first | (refine K.DW.want (fun _ => rfl) ?_; first | refine K.DW.det rfl (fun vs => K.e_fieldAddr fo28_2 rfl) ?_) | refine K.DW.skip (fun _ => rfl) ?_
                          first | (refine K.DW.want (fun _ => rfl) ?_; first | refine K.DW.det rfl (fun vs => K.e_load Try.isAgg2 rfl rfl) ?_ | refine K.DW.det rfl (fun vs => K.e_load0 Try.isAgg2 rfl (by assumption)) ?_) | refine K.DW.skip (fun _ => rfl) ?_
                          first | (refine K.DW.want (fun _ => rfl) ?_; first | refine K.DW.det rfl (fun vs => (K.e_gt rfl rfl).yes (by first | omega | assumption | decide +kernel)) ?_ | refine K.DW.det rfl (fun vs => (K.e_gt rfl rfl).no (by first | omega | assumption | decide +kernel)) ?_ | refine K.DW.det rfl (fun vs => K.e_gt rfl rfl) ?_) | refine K.DW.skip (fun _ => rfl) ?_
                          first | (refine K.DW.want (fun _ => rfl) ?_; first | refine K.DW.det rfl (fun vs => K.e_move rfl) ?_) | refine K.DW.skip (fun _ => rfl) ?_
                          first | (refine K.DW.want (fun _ => rfl) ?_; first | refine K.DW.det rfl (fun vs => K.e_move rfl) ?_) | refine K.DW.skip (fun _ => rfl) ?_
                          first | (refine K.DW.want (fun _ => rfl) ?_; first | refine K.DW.det rfl (fun vs => K.e_move rfl) ?_) | refine K.DW.skip (fun _ => rfl) ?_
                          first | (refine K.DW.want (fun _ => rfl) ?_; first | refine K.DW.det rfl (fun vs => (K.e_sub rfl rfl ⟨by omega, by omega⟩).cast_int (b := ((x - 1 : Nat) : Int)) (by omega)) ?_) | refine K.DW.skip (fun _ => rfl) ?_
                          first | (refine K.DW.want (fun _ => rfl) ?_; first | refine K.DW.det rfl (fun vs => K.e_indexAddrB sl53 rfl rfl hb43 (by omega) (by omega)) ?_) | refine K.DW.skip (fun _ => rfl) ?_
                          first | (refine K.DW.want (fun _ => rfl) ?_; first | refine K.DW.det rfl (fun vs => K.e_fieldAddr fo33_0 rfl) ?_) | refine K.DW.skip (fun _ => rfl) ?_
                          first | (refine K.DW.want (fun _ => rfl) ?_; first | refine K.DW.det rfl (fun vs => K.e_fieldAddr fo28_2 rfl) ?_) | refine K.DW.skip (fun _ => rfl) ?_
                          first | (refine K.DW.want (fun _ => rfl) ?_; first | refine K.DW.det rfl (fun vs => K.e_loadw Try.isAgg2 rfl (fun w hT => (hT.sl_row (k := 13) (n := l43.length) HasW.mem (by omega) (oe_flat_length _)).item encO_len ho1 2 _ rfl)) ?_) | refine K.DW.skip (fun _ => rfl) ?_
                          first | (refine K.DW.want (fun _ => rfl) ?_; first | refine K.DW.det rfl (fun vs => K.e_fieldAddr fo33_0 rfl) ?_) | refine K.DW.skip (fun _ => rfl) ?_
                          first | (refine K.DW.want (fun _ => rfl) ?_; first | refine K.DW.det rfl (fun vs => K.e_fieldAddr fo28_2 rfl) ?_) | refine K.DW.skip (fun _ => rfl) ?_
                          first | (refine K.DW.want (fun _ => rfl) ?_; first | refine K.DW.det rfl (fun vs => K.e_load Try.isAgg2 rfl rfl) ?_ | refine K.DW.det rfl (fun vs => K.e_load0 Try.isAgg2 rfl (by assumption)) ?_) | refine K.DW.skip (fun _ => rfl) ?_
                          first | (refine K.DW.want (fun _ => rfl) ?_; first | refine K.DW.det rfl (fun vs => (K.e_eq rfl rfl).yes (by first | omega | assumption | decide +kernel)) ?_ | refine K.DW.det rfl (fun vs => (K.e_eq rfl rfl).no (by first | omega | assumption | decide +kernel)) ?_ | refine K.DW.det rfl (fun vs => K.e_eq rfl rfl) ?_) | refine K.DW.skip (fun _ => rfl) ?_
                          first | (refine K.DW.want (fun _ => rfl) ?_; first | refine K.DW.det rfl (fun vs => K.e_move rfl) ?_) | refine K.DW.skip (fun _ => rfl) ?_
                          first | (refine K.DW.want (fun _ => rfl) ?_; first | refine K.DW.det rfl (fun vs => K.e_move rfl) ?_) | refine K.DW.skip (fun _ => rfl) ?_
                          first | (refine K.DW.want (fun _ => rfl) ?_; first | refine K.DW.det rfl (fun vs => K.e_move rfl) ?_) | refine K.DW.skip (fun _ => rfl) ?_
                          first | (refine K.DW.want (fun _ => rfl) ?_; first | refine K.DW.det rfl (fun vs => (K.e_sub rfl rfl ⟨by omega, by omega⟩).cast_int (b := ((x - 1 : Nat) : Int)) (by omega)) ?_) | refine K.DW.skip (fun _ => rfl) ?_
                          first | (refine K.DW.want (fun _ => rfl) ?_; first | refine K.DW.det rfl (fun vs => K.e_indexAddrB sl53 rfl rfl hb43 (by omega) (by omega)) ?_) | refine K.DW.skip (fun _ => rfl) ?_
                          first | (refine K.DW.want (fun _ => rfl) ?_; first | refine K.DW.det rfl (fun vs => K.e_fieldAddr fo33_0 rfl) ?_) | refine K.DW.skip (fun _ => rfl) ?_
                          first | (refine K.DW.want (fun _ => rfl) ?_; first | refine K.DW.det rfl (fun vs => K.e_fieldAddr fo28_0 rfl) ?_) | refine K.DW.skip (fun _ => rfl) ?_
                          first | (refine K.DW.want (fun _ => rfl) ?_; first | refine K.DW.det rfl (fun vs => K.e_loadw Try.isAgg2 rfl (fun w hT => (hT.sl_row (k := 13) (n := l43.length) HasW.mem (by omega) (oe_flat_length _)).item encO_len ho1 0 _ rfl)) ?_) | refine K.DW.skip (fun _ => rfl) ?_
                          first | (refine K.DW.want (fun _ => rfl) ?_; first | refine K.DW.det rfl (fun vs => K.e_fieldAddr fo33_0 rfl) ?_) | refine K.DW.skip (fun _ => rfl) ?_
                          first | (refine K.DW.want (fun _ => rfl) ?_; first | refine K.DW.det rfl (fun vs => K.e_fieldAddr fo28_0 rfl) ?_) | refine K.DW.skip (fun _ => rfl) ?_
                          first | (refine K.DW.want (fun _ => rfl) ?_; first | refine K.DW.det rfl (fun vs => K.e_load Try.isAgg2 rfl rfl) ?_ | refine K.DW.det rfl (fun vs => K.e_load0 Try.isAgg2 rfl (by assumption)) ?_) | refine K.DW.skip (fun _ => rfl) ?_
                          first | (refine K.DW.want (fun _ => rfl) ?_; first | refine K.DW.det rfl (fun vs => (K.e_ge rfl rfl).yes (by first | omega | assumption | decide +kernel)) ?_ | refine K.DW.det rfl (fun vs => (K.e_ge rfl rfl).no (by first | omega | assumption | decide +kernel)) ?_ | refine K.DW.det rfl (fun vs => K.e_ge rfl rfl) ?_) | refine K.DW.skip (fun _ => rfl) ?_
                          first | (refine K.DW.want (fun _ => rfl) ?_; first | refine K.DW.det rfl (fun vs => K.e_pick_t rfl rfl) ?_ | refine K.DW.det rfl (fun vs => K.e_pick_f rfl rfl) ?_) | refine K.DW.skip (fun _ => rfl) ?_
                          first | (refine K.DW.want (fun _ => rfl) ?_; first | refine K.DW.det rfl (fun vs => K.e_pick_t rfl rfl) ?_ | refine K.DW.det rfl (fun vs => K.e_pick_f rfl rfl) ?_) | refine K.DW.skip (fun _ => rfl) ?_
                          first | (refine K.DW.want (fun _ => rfl) ?_; first | refine K.DW.det rfl (fun vs => K.e_pick_t rfl rfl) ?_ | refine K.DW.det rfl (fun vs => K.e_pick_f rfl rfl) ?_) | refine K.DW.skip (fun _ => rfl) ?_
                          first | refine K.DW.det rfl (fun vs => K.e_pick_t rfl rfl) ?_ | refine K.DW.det rfl (fun vs => K.e_pick_f rfl rfl) ?_
                          refine K.DW.fin0 rfl (fun vs => ?_)
                          refine K.GL.keep [2, 3, 4, 6, 7, 8, 9, 10, 11, 12, 13, 14, 15, 58, 59, 60, 61, 62, 63, 64, 65, 66, 67, 68, 69, 70, 71, 72, 73, 74, 75, 76, 77, 78, 79, 80, 81, 82, 83, 84, 85, 86, 87, 88, 89, 90, 91, 92, 93, 94, 95, 96, 97, 98, 99, 100, 101, 102, 103, 104, 105, 106, 107, 108, 109, 110, 111, 112, 113, 114, 115, 116, 117, 118, 119, 120, 121, 122, 123, 124, 125, 126, 127, 128, 129, 130, 131, 132, 133, 134, 135, 136, 137, 138, 139, 140, 141, 142, 143, 144, 145, 146, 147, 148, 149, 150, 151, 152, 153, 154, 155, 156, 157, 158, 159, 160, 161, 162, 163, 164, 165, 166, 167, 168, 169, 170, 171, 172] rfl ?_
                          clear vs
                          refine K.GL.nil ?_
                          refine K.GQ.go ?_
                          refine K.GC.condB rfl (fun h8 => ?_) (fun h8 => ?_)
                          · first
                            | exact absurd h8 (by decide)
                            | try replace h8 := of_decide_eq_true h8
                              refine K.GC.seq ?_
                              refine K.GC.region ?_
                              refine K.GL.det (K.e_assign rfl) rfl ?_
                              refine K.GL.nil ?_
                              refine K.GQ.go ?_
                              refine K.GC.ret ?_
                              refine K.GQ.then_ret ?_
                              refine K.GQ.block_ret ?_
                              refine K.GQ.then_ret ?_
                              refine K.GQ.then_ret ?_
                              refine K.GQ.block_ret ?_
                              refine K.GQ.then_ret ?_
                              refine K.GQ.ret1 Try.results6 rfl (fun w hT => ?_)
                              exact ⟨rfl, hT.nil⟩
                          · first
                            | exact absurd h8 (by decide)
                            | try replace h8 := of_decide_eq_false h8
                              refine K.GC.skip ?_
                              refine K.GQ.go ?_
                              refine K.GC.seq ?_
                              refine K.GC.region ?_
                              refine K.GL.det (K.e_move rfl) rfl ?_
                              refine K.GL.det (K.e_fieldAddr fo33_2 rfl) rfl ?_
                              first | refine K.GL.det (K.e_load Try.isAgg2 rfl rfl) rfl ?_ | refine K.GL.det (K.e_load0 Try.isAgg2 rfl (by assumption)) rfl ?_
                              refine gl_in Try.call29 rfl hk hz9 rfl (fun a121 c121 => ?_)
                              refine K.GL.fact (p := 0 < (g.in_ o.x.seq).length → a121 = some ⟨bk a121, of_ a121, none⟩) (fun w hT => (hT.sl_row (k := 1) (n := (g.in_ o.x.seq).length) HasW.mem (by omega) (by rw [idsV_length, Nat.mul_one])).base) (fun hb121 => ?_)
                              refine K.GL.det (K.e_assign rfl) rfl ?_
                              refine K.GL.nil ?_
                              refine K.GQ.go ?_
                              refine K.GC.seq ?_
                              refine K.GC.region ?_
                              refine K.GL.det (K.e_assign rfl) rfl ?_
                              refine K.GL.nil ?_
                              refine K.GQ.go ?_
                              refine K.GC.seq ?_
                              refine K.GC.region ?_
                              refine K.GL.det (K.e_fieldAddr fo33_3 rfl) rfl ?_
                              first | refine K.GL.det (K.e_load Try.isAgg3 rfl rfl) rfl ?_ | refine K.GL.det (K.e_load0 Try.isAgg3 rfl (by assumption)) rfl ?_
                              refine K.GL.det (K.e_assign rfl) rfl ?_
                              refine K.GL.nil ?_
                              refine K.GQ.go ?_
                              refine K.GC.seq ?_
                              refine K.GC.seq ?_
                              refine K.GC.region ?_
                              refine K.GL.det (K.e_assign rfl) rfl ?_
                              refine K.GL.nil ?_
                              refine K.GQ.go ?_
                              refine K.GC.block ?_
                              refine K.GC.loopk (α := Nat × Int × Nat) [3, 4, 6, 7, 8, 9, 10, 58, 59, 60, 61, 62, 63, 64, 65, 66, 67, 68, 69, 70, 71, 72, 73, 74, 75, 76, 77, 78, 79, 80, 81, 82, 83, 84, 85, 86, 87, 88, 89, 90, 91, 92, 93, 94, 95, 96, 97, 98, 99, 100, 101, 102, 103, 104, 105, 106, 107, 108, 109, 110, 111, 112, 113, 114, 115, 116, 117, 118, 119, 120, 121, 122, 123, 170, 171, 172] rfl (fun y => [(11, .int .i64 (y.2.2 : Int)), (12, .int .i64 y.2.1), (13, .int .i64 (y.1 : Int))]) (fun y => [row a121 c121 1 2 (idsV (g.in_ o.x.seq)), cl b9 33 (encE o.x o.a o.c), row a45 c45 5 28 (g.all.flatMap encI), row a43 c43 13 33 (l43.flatMap OE.enc), IdxR d g]) (fun y => y.1 ≤ (g.in_ o.x.seq).length ∧ (0 < y.1 → ∃ e, (g.in_ o.x.seq)[y.1 - 1]? = some e ∧ y.2.1 = e.at_) ∧ y.2.2 = (((g.in_ o.x.seq).take y.1).filter fun e => decide (e.id = o.x.id)).length) (fun y => ((g.in_ o.x.seq).length - y.1)) (0, o.x.at_, 0) ⟨Nat.zero_le _, fun h => absurd h (by simp), rfl⟩ (by (repeat refine ⟨rfl, ?_⟩); exact trivial) (K.Sub.refl _) (fun y hI => ?_)
                              obtain ⟨y, lv, cn⟩ := y
                              obtain ⟨hy1, hy2, hy3⟩ := hI
                              simp only at hy1 hy2 hy3 ⊢
                              have hcn : cn ≤ y := by rw [hy3]; exact Nat.le_trans (List.length_filter_le _ _) (by rw [List.length_take]; omega)
                              refine K.GC.seq ?_
                              refine K.GC.seq ?_
                              refine K.GC.region ?_
                              refine K.GL.det (K.e_move rfl) rfl ?_
                              refine K.GL.det (K.e_move rfl) rfl ?_
                              refine K.GL.det (K.e_len Try.underlying50 rfl) rfl ?_
                              first | refine K.GL.det ((K.e_lt rfl rfl).yes (by first | omega | assumption | decide +kernel)) rfl ?_ | refine K.GL.det ((K.e_lt rfl rfl).no (by first | omega | assumption | decide +kernel)) rfl ?_ | refine K.GL.det (K.e_lt rfl rfl) rfl ?_
                              refine K.GL.nil ?_
                              refine K.GQ.go ?_
                              refine K.GC.condB rfl (fun h9 => ?_) (fun h9 => ?_)
                              · first
                                | exact absurd h9 (by decide)
                                | try replace h9 := of_decide_eq_true h9
                                  refine K.GC.skip ?_
                                  refine K.GQ.go ?_
                                  refine K.GC.seq ?_
                                  refine K.GC.block ?_
                                  refine K.GC.seq ?_
                                  obtain ⟨e, he⟩ : ∃ e, (g.in_ o.x.seq)[y]? = some e := get_ex (by omega)
                                  have hem := List.mem_of_getElem? he
                                  have hlast := last_le he hy2
                                  refine K.GC.region ?_
                                  refine K.GL.det (K.e_move rfl) rfl ?_
                                  refine K.GL.det (K.e_move rfl) rfl ?_
                                  refine K.GL.det (K.e_move rfl) rfl ?_
                                  refine K.GL.det (K.e_indexAddrB sl50 rfl rfl hb121 (by omega) (by omega)) rfl ?_
                                  refine K.GL.det (K.e_loadw Try.isAgg2 rfl (fun w hT => (hT.sl_row (k := 1) (n := (g.in_ o.x.seq).length) HasW.mem (by omega) (by rw [idsV_length, Nat.mul_one])).cell _ _ (idsV_get he (by omega)))) rfl ?_
                                  refine gl_get Try.call12 rfl hk (in_get hk hem) rfl (fun a136 c136 => ?_)
                                  refine K.GL.det (K.e_move rfl) rfl ?_
                                  refine K.GL.det (K.e_extract rfl rfl) rfl ?_
                                  refine K.GL.det ((K.e_extract rfl rfl).cast_bool (b := true) rfl) rfl ?_
                                  refine K.GL.alloc Try.zeroValue33 rfl rfl (fun b14 => ?_)
                                  refine K.GL.store rfl rfl rfl Try.sizeOf33 rfl rfl ?_
                                  refine K.GL.det (K.e_assign rfl) rfl ?_
                                  refine K.GL.nil ?_
                                  refine K.GQ.go ?_
                                  refine K.GC.seq ?_
                                  refine K.GC.seq ?_
                                  refine K.GC.region ?_
                                  refine K.GL.det (K.e_move rfl) rfl ?_
                                  refine K.GL.det ((K.e_not rfl).cast_bool (b := false) rfl) rfl ?_
                                  refine K.GL.det (K.e_move rfl) rfl ?_
                                  first | refine K.GL.splitB 141 rfl (fun h10 => ?_) (fun h10 => ?_) | skip
                                  all_goals first | exact absurd h10 (by decide) | replace h10 := of_decide_eq_true h10 | replace h10 := of_decide_eq_false h10 | skip
                                  all_goals
                                    first | (refine K.GL.want 141 rfl rfl rfl ?_; first | refine K.GL.det (K.e_fieldAddr fo33_2 rfl) rfl ?_) | refine K.GL.skip 141 rfl rfl rfl rfl ?_ | refine K.GL.skipU 141 rfl rfl rfl rfl ?_
                                    first | (refine K.GL.want 141 rfl rfl rfl ?_; first | refine K.GL.det (K.e_load Try.isAgg2 rfl rfl) rfl ?_ | refine K.GL.det (K.e_load0 Try.isAgg2 rfl (by assumption)) rfl ?_) | refine K.GL.skip 141 rfl rfl rfl rfl ?_ | refine K.GL.skipU 141 rfl rfl rfl rfl ?_
                                    first | (refine K.GL.want 141 rfl rfl rfl ?_; first | refine K.GL.det (K.e_fieldAddr fo33_2 rfl) rfl ?_) | refine K.GL.skip 141 rfl rfl rfl rfl ?_ | refine K.GL.skipU 141 rfl rfl rfl rfl ?_
                                    first | (refine K.GL.want 141 rfl rfl rfl ?_; first | refine K.GL.det (K.e_load Try.isAgg2 rfl rfl) rfl ?_ | refine K.GL.det (K.e_load0 Try.isAgg2 rfl (by assumption)) rfl ?_) | refine K.GL.skip 141 rfl rfl rfl rfl ?_ | refine K.GL.skipU 141 rfl rfl rfl rfl ?_
                                    first | (refine K.GL.want 141 rfl rfl rfl ?_; first | refine K.GL.det ((K.e_ne rfl rfl).no (not_not_intro (in_mem hem).2)) rfl ?_) | refine K.GL.skip 141 rfl rfl rfl rfl ?_ | refine K.GL.skipU 141 rfl rfl rfl rfl ?_
                                    first | refine K.GL.det (K.e_pick_t rfl rfl) rfl ?_ | refine K.GL.det (K.e_pick_f rfl rfl) rfl ?_
                                    refine K.GL.det (K.e_move rfl) rfl ?_
                                    first | refine K.GL.splitB 148 rfl (fun h11 => ?_) (fun h11 => ?_) | skip
                                    all_goals first | exact absurd h11 (by decide) | replace h11 := of_decide_eq_true h11 | replace h11 := of_decide_eq_false h11 | skip
                                    all_goals
                                      first | (refine K.GL.want 148 rfl rfl rfl ?_; first | refine K.GL.det (K.e_move rfl) rfl ?_) | refine K.GL.skip 148 rfl rfl rfl rfl ?_ | refine K.GL.skipU 148 rfl rfl rfl rfl ?_
                                      first | (refine K.GL.want 148 rfl rfl rfl ?_; first | refine K.GL.det ((K.e_gt rfl rfl).yes (by first | omega | assumption | decide +kernel)) rfl ?_ | refine K.GL.det ((K.e_gt rfl rfl).no (by first | omega | assumption | decide +kernel)) rfl ?_ | refine K.GL.det (K.e_gt rfl rfl) rfl ?_) | refine K.GL.skip 148 rfl rfl rfl rfl ?_ | refine K.GL.skipU 148 rfl rfl rfl rfl ?_
                                      first | (refine K.GL.want 148 rfl rfl rfl ?_; first | refine K.GL.det (K.e_move rfl) rfl ?_) | refine K.GL.skip 148 rfl rfl rfl rfl ?_ | refine K.GL.skipU 148 rfl rfl rfl rfl ?_
                                      first | refine K.GL.splitB 151 rfl (fun h12 => ?_) (fun h12 => ?_) | skip
                                      all_goals first | exact absurd h12 (by decide) | replace h12 := of_decide_eq_true h12 | replace h12 := of_decide_eq_false h12 | skip
                                      all_goals
                                        first | (refine K.GL.want 151 rfl rfl rfl ?_; first | refine K.GL.det (K.e_fieldAddr fo33_3 rfl) rfl ?_) | refine K.GL.skip 151 rfl rfl rfl rfl ?_ | refine K.GL.skipU 151 rfl rfl rfl rfl ?_
                                        first | (refine K.GL.want 151 rfl rfl rfl ?_; first | refine K.GL.det (K.e_load Try.isAgg3 rfl rfl) rfl ?_ | refine K.GL.det (K.e_load0 Try.isAgg3 rfl (by assumption)) rfl ?_) | refine K.GL.skip 151 rfl rfl rfl rfl ?_ | refine K.GL.skipU 151 rfl rfl rfl rfl ?_
                                        first | (refine K.GL.want 151 rfl rfl rfl ?_; first | refine K.GL.det (K.e_move rfl) rfl ?_) | refine K.GL.skip 151 rfl rfl rfl rfl ?_ | refine K.GL.skipU 151 rfl rfl rfl rfl ?_
                                        first | (refine K.GL.want 151 rfl rfl rfl ?_; first | refine K.GL.det ((K.e_lt rfl rfl).no (by show ¬ (e.at_ < lv); omega)) rfl ?_) | refine K.GL.skip 151 rfl rfl rfl rfl ?_ | refine K.GL.skipU 151 rfl rfl rfl rfl ?_
                                        first | (refine K.GL.want 148 rfl rfl rfl ?_; first | refine K.GL.det (K.e_pick_t rfl rfl) rfl ?_ | refine K.GL.det (K.e_pick_f rfl rfl) rfl ?_) | refine K.GL.skip 148 rfl rfl rfl rfl ?_ | refine K.GL.skipU 148 rfl rfl rfl rfl ?_
                                        first | refine K.GL.det (K.e_pick_t rfl rfl) rfl ?_ | refine K.GL.det (K.e_pick_f rfl rfl) rfl ?_
                                        refine K.GL.nil ?_
                                        refine K.GQ.go ?_
                                        refine K.GC.condB rfl (fun h13 => ?_) (fun h13 => ?_)
                                        · first
                                          | exact absurd h13 (by decide)
                                          | try replace h13 := of_decide_eq_true h13
                                            refine K.GC.seq ?_
                                            refine K.GC.region ?_
                                            refine K.GL.det (K.e_assign rfl) rfl ?_
                                            refine K.GL.nil ?_
                                            refine K.GQ.go ?_
                                            refine K.GC.ret ?_
                                            refine K.GQ.then_ret ?_
                                            refine K.GQ.block_ret ?_
                                            refine K.GQ.then_ret ?_
                                            refine K.GQ.then_ret ?_
                                            refine K.GQ.block_ret ?_
                                            refine K.GQ.then_ret ?_
                                            refine K.GQ.block_ret ?_
                                            refine K.GQ.then_ret ?_
                                            refine K.GQ.then_ret ?_
                                            refine K.GQ.block_ret ?_
                                            refine K.GQ.then_ret ?_
                                            refine K.GQ.ret1 Try.results6 rfl (fun w hT => ?_)
                                            exact ⟨rfl, hT.nil⟩
                                        · first
                                          | exact absurd h13 (by decide)
                                          | try replace h13 := of_decide_eq_false h13
                                            refine K.GC.skip ?_
                                            refine K.GQ.go ?_
                                            refine K.GC.seq ?_
                                            refine K.GC.region ?_
                                            refine K.GL.det (K.e_fieldAddr fo33_3 rfl) rfl ?_
                                            first | refine K.GL.det (K.e_load Try.isAgg3 rfl rfl) rfl ?_ | refine K.GL.det (K.e_load0 Try.isAgg3 rfl (by assumption)) rfl ?_
                                            refine K.GL.det (K.e_assign rfl) rfl ?_
                                            refine K.GL.nil ?_
                                            refine K.GQ.go ?_
                                            refine K.GC.seq ?_
                                            refine K.GC.drawn 8 [[], [], [0, 1], [0, 1, 2], [], [4], [4, 5], [0, 1, 2, 3, 4, 5, 6]] [[], [], [0, 1], [2], [], [4], [5], [3, 6]] [2, 3, 4, 6, 7, 8, 9, 10, 11, 12, 13, 14, 15, 58, 59, 60, 61, 62, 63, 64, 65, 66, 67, 68, 69, 70, 71, 72, 73, 74, 75, 76, 77, 78, 79, 80, 81, 82, 83, 84, 85, 86, 87, 88, 89, 90, 91, 92, 93, 94, 95, 96, 97, 98, 99, 100, 101, 102, 103, 104, 105, 106, 107, 108, 109, 110, 111, 112, 113, 114, 115, 116, 117, 118, 119, 120, 121, 122, 123, 124, 125, 126, 127, 128, 129, 130, 131, 132, 133, 134, 135, 136, 137, 138, 139, 140, 141, 142, 143, 144, 145, 146, 147, 148, 149, 150, 151, 152, 153, 154, 155, 156, 157, 158, 159, 168, 169, 170, 171, 172] (by kernel_rfl) (by kernel_rfl) rfl ?_
                                            refine K.DW.det rfl (fun vs => K.e_move rfl) ?_
                                            refine K.DW.det rfl (fun vs => K.e_move rfl) ?_
                                            refine K.DW.det rfl (fun vs => K.e_indexAddrB sl50 rfl rfl hb121 (by omega) (by omega)) ?_
                                            refine K.DW.det rfl (fun vs => K.e_loadw Try.isAgg2 rfl (fun w hT => (hT.sl_row (k := 1) (n := (g.in_ o.x.seq).length) HasW.mem (by omega) (by rw [idsV_length, Nat.mul_one])).cell _ _ (idsV_get he (by omega)))) ?_
                                            refine K.DW.det rfl (fun vs => K.e_fieldAddr fo33_0 rfl) ?_
                                            refine K.DW.det rfl (fun vs => K.e_fieldAddr fo28_0 rfl) ?_
                                            first | refine K.DW.det rfl (fun vs => K.e_load Try.isAgg2 rfl rfl) ?_ | refine K.DW.det rfl (fun vs => K.e_load0 Try.isAgg2 rfl (by assumption)) ?_
                                            refine K.DW.det rfl (fun vs => K.e_eq rfl rfl) ?_
                                            refine K.DW.fin0 rfl (fun vs => ?_)
                                            refine K.GL.keep [2, 3, 4, 6, 7, 8, 9, 10, 11, 12, 13, 14, 15, 58, 59, 60, 61, 62, 63, 64, 65, 66, 67, 68, 69, 70, 71, 72, 73, 74, 75, 76, 77, 78, 79, 80, 81, 82, 83, 84, 85, 86, 87, 88, 89, 90, 91, 92, 93, 94, 95, 96, 97, 98, 99, 100, 101, 102, 103, 104, 105, 106, 107, 108, 109, 110, 111, 112, 113, 114, 115, 116, 117, 118, 119, 120, 121, 122, 123, 124, 125, 126, 127, 128, 129, 130, 131, 132, 133, 134, 135, 136, 137, 138, 139, 140, 141, 142, 143, 144, 145, 146, 147, 148, 149, 150, 151, 152, 153, 154, 155, 156, 157, 158, 159, 160, 161, 162, 163, 164, 165, 166, 167, 168, 169, 170, 171, 172] rfl ?_
                                            clear vs
                                            refine K.GL.nil ?_
                                            refine K.GQ.go ?_
                                            refine K.GC.condB rfl (fun h14 => ?_) (fun h14 => ?_)
                                            · first
                                              | exact absurd h14 (by decide)
                                              | try replace h14 := of_decide_eq_true h14
                                                refine K.GC.region ?_
                                                refine K.GL.det (K.e_move rfl) rfl ?_
                                                first | refine K.GL.det (K.e_add rfl rfl ⟨by omega, by omega⟩) rfl ?_ | refine K.GL.det (K.e_addw rfl rfl) rfl ?_
                                                refine K.GL.det (K.e_assign rfl) rfl ?_
                                                refine K.GL.nil ?_
                                                refine K.GQ.block_normal ?_
                                                refine K.GQ.go ?_
                                                refine K.GC.region ?_
                                                refine K.GL.det (K.e_move rfl) rfl ?_
                                                first | refine K.GL.det (K.e_add rfl rfl ⟨by omega, by omega⟩) rfl ?_ | refine K.GL.det (K.e_addw rfl rfl) rfl ?_
                                                refine K.GL.det (K.e_assign rfl) rfl ?_
                                                refine K.GL.nil ?_
                                                first
                                                  | exact K.GQ.round (y + 1, e.at_, cn + 1) ⟨by simp only; omega, fun _ => ⟨e, he, rfl⟩, by simp only; rw [count_next he, ← hy3, if_pos (decide_eq_true (by assumption))]⟩ (by simp only; omega) (by (repeat refine ⟨rfl, ?_⟩); exact trivial) (Sub.take (i := 2) rfl (Sub.take (i := 2) rfl (Sub.take (i := 2) rfl (Sub.take (i := 2) rfl (Sub.take (i := 2) rfl (Sub.nil _))))))
                                                  | exact K.GQ.round (y + 1, e.at_, cn) ⟨by simp only; omega, fun _ => ⟨e, he, rfl⟩, by simp only; rw [count_next he, ← hy3, if_neg (by simpa using by assumption)]; rfl⟩ (by simp only; omega) (by (repeat refine ⟨rfl, ?_⟩); exact trivial) (Sub.take (i := 2) rfl (Sub.take (i := 2) rfl (Sub.take (i := 2) rfl (Sub.take (i := 2) rfl (Sub.take (i := 2) rfl (Sub.nil _))))))
                                            · first
                                              | exact absurd h14 (by decide)
                                              | try replace h14 := of_decide_eq_false h14
                                                refine K.GC.skip ?_
                                                refine K.GQ.block_normal ?_
                                                refine K.GQ.go ?_
                                                refine K.GC.region ?_
                                                refine K.GL.det (K.e_move rfl) rfl ?_
                                                first | refine K.GL.det (K.e_add rfl rfl ⟨by omega, by omega⟩) rfl ?_ | refine K.GL.det (K.e_addw rfl rfl) rfl ?_
                                                refine K.GL.det (K.e_assign rfl) rfl ?_
                                                refine K.GL.nil ?_
                                                first
                                                  | exact K.GQ.round (y + 1, e.at_, cn + 1) ⟨by simp only; omega, fun _ => ⟨e, he, rfl⟩, by simp only; rw [count_next he, ← hy3, if_pos (decide_eq_true (by assumption))]⟩ (by simp only; omega) (by (repeat refine ⟨rfl, ?_⟩); exact trivial) (Sub.take (i := 2) rfl (Sub.take (i := 2) rfl (Sub.take (i := 2) rfl (Sub.take (i := 2) rfl (Sub.take (i := 2) rfl (Sub.nil _))))))
                                                  | exact K.GQ.round (y + 1, e.at_, cn) ⟨by simp only; omega, fun _ => ⟨e, he, rfl⟩, by simp only; rw [count_next he, ← hy3, if_neg (by simpa using by assumption)]; rfl⟩ (by simp only; omega) (by (repeat refine ⟨rfl, ?_⟩); exact trivial) (Sub.take (i := 2) rfl (Sub.take (i := 2) rfl (Sub.take (i := 2) rfl (Sub.take (i := 2) rfl (Sub.take (i := 2) rfl (Sub.nil _))))))
                              · first
                                | exact absurd h9 (by decide)
                                | try replace h9 := of_decide_eq_false h9
                                  refine K.GC.exit ?_
                                  refine K.GQ.then_exit ?_
                                  refine K.GQ.then_exit ?_
                                  refine K.GQ.block_hit ?_
                                  refine K.GQ.go ?_
                                  refine K.GC.seq ?_
                                  have h1o := own_one hk (all_mem hl43 ho)
                                  rw [← List.take_of_length_le (l := g.in_ o.x.seq) (i := y) (by omega), ← hy3] at h1o
                                  refine K.GC.region ?_
                                  refine K.GL.det (K.e_move rfl) rfl ?_
                                  refine K.GL.det ((K.e_ne rfl rfl).no (by omega)) rfl ?_
                                  refine K.GL.nil ?_
                                  refine K.GQ.go ?_
                                  refine K.GC.condB rfl (fun h15 => ?_) (fun h15 => ?_)
                                  · first
                                    | exact absurd h15 (by decide)
                                    | try replace h15 := of_decide_eq_true h15
                                      refine K.GC.seq ?_
                                      refine K.GC.region ?_
                                      refine K.GL.det (K.e_assign rfl) rfl ?_
                                      refine K.GL.nil ?_
                                      refine K.GQ.go ?_
                                      refine K.GC.ret ?_
                                      refine K.GQ.block_ret ?_
                                      refine K.GQ.then_ret ?_
                                      refine K.GQ.then_ret ?_
                                      refine K.GQ.block_ret ?_
                                      refine K.GQ.then_ret ?_
                                      refine K.GQ.ret1 Try.results6 rfl (fun w hT => ?_)
                                      exact ⟨rfl, hT.nil⟩
                                  · first
                                    | exact absurd h15 (by decide)
                                    | try replace h15 := of_decide_eq_false h15
                                      refine K.GC.skip ?_
                                      refine K.GQ.block_normal ?_
                                      refine K.GQ.go ?_
                                      refine K.GC.region ?_
                                      refine K.GL.det (K.e_move rfl) rfl ?_
                                      first | refine K.GL.det (K.e_add rfl rfl ⟨by omega, by omega⟩) rfl ?_ | refine K.GL.det (K.e_addw rfl rfl) rfl ?_
                                      refine K.GL.det (K.e_assign rfl) rfl ?_
                                      refine K.GL.nil ?_
                                      exact K.GQ.round (x + 1) (by omega) (by omega) (by (repeat refine ⟨rfl, ?_⟩); exact trivial) (Sub.take (i := 2) rfl (Sub.take (i := 2) rfl (Sub.take (i := 2) rfl (Sub.nil _))))
                    · first
                      | exact absurd h7 (by decide)
                      | try replace h7 := of_decide_eq_false h7
                        refine K.GC.exit ?_
                        refine K.GQ.then_exit ?_
                        refine K.GQ.then_exit ?_
                        refine K.GQ.block_hit ?_
                        refine K.GQ.go ?_
                        refine K.GC.seq ?_
                        refine K.GC.region ?_
                        refine K.GL.det (K.e_move rfl) rfl ?_
                        refine K.GL.det (K.e_assign rfl) rfl ?_
                        refine K.GL.nil ?_
                        refine K.GQ.go ?_
                        refine K.GC.ret ?_
                        refine K.GQ.ret1 Try.results6 rfl (fun w hT => ?_)
                        exact ⟨rfl, hT.nil⟩

set_option maxHeartbeats 1000000 in
set_option maxRecDepth 100000 in
theorem EntryOrder_lifted (os : Os) (started : os.Started) (H : Type) (enc : TypeId × Value → H) :
    ReturnsInHanded {} Try.checked os 6 .any (Rows.entryOrderSpec.pre6 enc Try.prog Try.f6 Rows.entryOrderRow.domain false) (Rows.entryOrderSpec.post enc Try.prog Try.f6 false true false false) := by
  refine returnsInHanded_of_change_sized (C := Try.checked) own started (by kernel_rfl) Try.func6
    (ChangeSpec.witness6 (enc := enc) (C := Try.checked) false ⟨#[], #[.slice none 0 0], []⟩ 8 (by kernel_rfl) (by kernel_rfl) (by kernel_rfl) (by kernel_rfl)) ?_
  intro W base args ds gs before hval0 hW _ hsz0 _
  have hval : ∀ (j : Nat) t v, Try.f6.params[j]? = some t → args[j]? = some v → Value.okWide Try.prog W .any base t v := hval0
  have hsz : (DataW.weightsEach Try.prog (Try.f6.params.toList ++ []) (ds ++ gs)).all (· ≤ reachBytes) = true := hsz0
  have hW' := hW
  obtain ⟨p, q, hA0, hV, hpe, hfz, hnd⟩ := hW
  have hA : DataW.TrodAll enc Try.prog W 0 (fun _ => true) true Try.f6.params.toList args.toList ds p := hA0
  obtain ⟨rfl, rfl⟩ := trodVars_none hV
  rw [Try.params6] at hA hval hsz
  obtain ⟨v0, vs0, d0, ds0, p0, q0, hargs, rfl, rfl, h0, r0⟩ := trodAll_cons hA
  obtain ⟨rfl, rfl, rfl⟩ := trodAll_nil r0
  obtain rfl : args = #[v0] := by cases args; simp_all
  clear hA0 hval0 hsz0 hA hargs
  obtain ⟨ax, nx, cx, rfl⟩ := okWide_slice Try.underlying22 (hval 0 22 _ rfl rfl)
  obtain ⟨fuelx, hfx⟩ := h0
  obtain ⟨ax', nx', cx', lx, hcsx, hnx, hSx, hGx⟩ := open_ops hfx
  have hcsx' : Value.slice ax nx cx = .slice ax' nx' cx' := by simpa [Value.cells] using hcsx
  simp only [Value.slice.injEq] at hcsx'
  obtain ⟨rfl, rfl, rfl⟩ := hcsx'
  unfold maxLen at hnx
  have core : Calls Try.prog 6 #[.slice ax nx cx] W fun e W' => e = .returned (.bool true) ∧ Tr W [] W' [] := order_any W hSx hGx (by omega)
  exact core.mono fun e W' ⟨he, hT⟩ => ⟨_, he, law_post (tb := 4) hW' rfl rfl Try.underlying4 (fun _ => rfl) laidOut (by kernel_rfl) hT.below⟩
theorem EntryOrder_holds : Rows.EntryOrderSaid :=
  OpenClaim.holds_of_wide 6 Try.f6 rfl rfl rfl rfl rfl rfl rfl ⟨rfl, rfl, rfl, rfl, rfl⟩ rfl rfl rfl rfl rfl (by kernel_rfl) Try.func6 (by kernel_rfl)
    (of_decide_eq_true (by kernel_rfl)) (by unfold Func.isWrapper; first | (rw [if_pos (by decide +kernel)]; kernel_rfl) | (rw [if_neg (by decide +kernel)]; exact ⟨rfl, rfl⟩))
    (fun os started H enc _ => EntryOrder_lifted os started H enc)

end Go.Proofs.Ytcphpcjcbmennaa
