/- EntryBack returns true for all calls, any number and any entry, and turns nothing. -/
import Derived.ProofKit
import Derived.OpenShut
import Derived.SizedLaws
import Derived.Lib.SmallJoins
import Derived.Test.YtcphpcjcbmennaaRows
import Derived.Test.YtcphpcjcbmennaaEntL
import Derived.Test.YtcphpcjcbmennaaEntM
namespace Go.Proofs.Ytcphpcjcbmennaa
open Go Go.K Go.ChangeShapes Go.WideShapes Go.ChangeAt Go.RowKit Go.Joins
set_option linter.unusedVariables false
set_option linter.unusedSimpArgs false
attribute [local irreducible] Calls Ev GL GC GQ GR Code.wp
theorem own : ownKnob Try.prog.godebug = none := by kernel_rfl
theorem laidOut : laidOutB Try.prog = true := by kernel_rfl

theorem all_of {g g2 : IG} (h : g2.ents = g.ents) : g2.all = g.all := by unfold IG.all; rw [h]
theorem back_at {l : List EX} {k : Int} {y : EX} (hy : xget k l = some y) (h : EX → EX) (hh : ∀ z, (h z).id = z.id) (he : h y = y) : xmod k h l = l := by
  induction l with
  | nil => rfl
  | cons z l ih =>
    simp only [xget] at hy
    simp only [xmod]
    by_cases hz : z.id = k
    · rw [if_pos hz] at hy ⊢
      have := Option.some.inj hy
      subst this
      rw [he]
    · rw [if_neg hz] at hy ⊢
      rw [ih hy]
theorem mod_mod {l : List EX} {k : Int} {f h : EX → EX} (hf : ∀ z, (f z).id = z.id) : xmod k h (xmod k f l) = xmod k (fun z => h (f z)) l := by
  induction l with
  | nil => rfl
  | cons z l ih =>
    simp only [xmod]
    by_cases hz : z.id = k
    · rw [if_pos hz, if_pos hz]; simp only [xmod]; rw [if_pos (by rw [hf]; exact hz)]
    · rw [if_neg hz, if_neg hz]; simp only [xmod]; rw [if_neg hz, ih]
theorem back_six {l : List EX} {k : Int} {b1 : Bool} {c1 s1 a1 z1 : Int} : xmod k (movF ((xget k l).getD EX.zero).seq ((xget k l).getD EX.zero).at_ ((xget k l).getD EX.zero).size) (xmod k (clsF ((xget k l).getD EX.zero).cls) (xmod k (pinF ((xget k l).getD EX.zero).pin) (xmod k (movF s1 a1 z1) (xmod k (clsF c1) (xmod k (pinF b1) l))))) = l := by
  cases hy : xget k l with
  | none => simp only [xmod_none hy]
  | some y =>
    rw [mod_mod (f := pinF b1) (fun _ => rfl), mod_mod (f := fun z => clsF c1 (pinF b1 z)) (fun _ => rfl), mod_mod (f := fun z => movF s1 a1 z1 (clsF c1 (pinF b1 z))) (fun _ => rfl), mod_mod (f := fun z => pinF _ (movF s1 a1 z1 (clsF c1 (pinF b1 z)))) (fun _ => rfl), mod_mod (f := fun z => clsF _ (pinF _ (movF s1 a1 z1 (clsF c1 (pinF b1 z))))) (fun _ => rfl)]
    exact back_at hy _ (fun _ => rfl) rfl
theorem del_put {l : List EX} {x : EX} (h : xget x.id l = none) : xdel x.id (xput x l) = l := by
  induction l with
  | nil => simp only [xput, xdel, if_true]
  | cons z l ih =>
    simp only [xget] at h
    by_cases hz : z.id = x.id
    · rw [if_pos hz] at h; cases h
    · rw [if_neg hz] at h
      simp only [xput, if_neg hz, xdel, ih h]
theorem del_put_len {l : List EX} {x y : EX} (h : xget x.id l = some y) : (xdel x.id (xput x l)).length + 1 = l.length := by
  induction l with
  | nil => simp [xget] at h
  | cons z l ih =>
    simp only [xget] at h
    by_cases hz : z.id = x.id
    · simp only [xput, if_pos hz, xdel, if_true, List.length_cons]
    · rw [if_neg hz] at h
      simp only [xput, if_neg hz, xdel, List.length_cons, ih h]
theorem isSome_mod {l : List EX} {k : Int} {f : EX → EX} (hf : ∀ z, (f z).id = z.id) : (xget k (xmod k f l)).isSome = (xget k l).isSome := by
  rw [xget_mod hf, if_pos rfl]; cases xget k l <;> rfl
theorem mod_some {l l2 : List EX} {k : Int} {f : EX → EX} (hv : l2 = xmod k f l) (hf : ∀ z, (f z).id = z.id) : (xget k l2).isSome = (xget k l).isSome := by rw [hv]; exact isSome_mod hf
theorem entries_row {w0 w : World} {L0 L : List Res} {l k : List OE} {a b : Option Addr} {ca cb : Nat} (hT : Tr w0 L0 w L) (hA : row a ca 13 33 (l.flatMap OE.enc) ∈ L) (hB : row b cb 13 33 (k.flatMap OE.enc) ∈ L) (hsA : Go.K.all (l.map svR) ∈ L) (hsB : Go.K.all (k.map svR) ∈ L) (h9 : ∀ o ∈ l, o.x.sv.length ≤ 9000) (hn : l.length < 9223372036854775807) :
    Calls Try.prog 31 #[.slice a l.length ca, .slice b k.length cb] w fun e w' => e = .returned (.bool (decide (l.map OE.x = k.map OE.x))) ∧ Tr w [] w' [] := by
  have sv : ∀ {m : List OE}, Go.K.all (m.map svR) ∈ L → ∀ o ∈ m, Sl w 1 o.a o.x.sv.length (strs o.x.sv) := fun {m} hm o ho => by
    have h1 : (svR o).ok w.heap := (hT.ok _ hm).2 _ (List.mem_map.2 ⟨o, ho, rfl⟩)
    exact (Tr.start (L := [svR o]) (Disj.one _) (fun r hr => by simp only [List.mem_singleton] at hr; subst hr; exact h1)).sl_row List.mem_cons_self (by omega) (by rw [strs_length, Nat.mul_one])
  exact entries_con (hT.sl_row hA (by omega) (oe_flat_length _)) (hT.sl_row hB (by omega) (oe_flat_length _)) (sv hsA) (sv hsB) h9 hn
theorem all_sv {g : IG} (hk : g.Ok) {l : List OE} (hl : l.map OE.x = g.all) : ∀ o ∈ l, o.x.sv.length ≤ 9000 := fun o ho => by
  have h1 : o.x ∈ g.all := by rw [← hl]; exact List.mem_map.2 ⟨o, ho, rfl⟩
  have h2 : o.x ∈ g.ents := (sortX_perm _ _ _).mem_iff.1 h1
  obtain ⟨e, he, hx⟩ := List.mem_map.1 h2
  rw [← hx]
  exact hk.sv e he
theorem all_len {g : IG} {l : List OE} (hl : l.map OE.x = g.all) : l.length = g.es.length := by rw [← IG.all_length, ← hl, List.length_map]

theorem lay35 : K.layout Try.prog 35 = some ([.int .i64 0, .int .i64 0, .int .i64 0, .int .i64 0, .int .i64 0, .bool false, .int .i64 0, .int .i64 0, .int .i64 0, .int .i64 0, .slice none 0 0, .int .i64 0, .int .i64 0, .int .i64 0, .int .i64 0, .bool false, .int .i64 0, .int .i64 0, .int .i64 0, .int .i64 0], [(0, 1), (1, 13), (14, 1), (15, 1), (16, 1), (17, 1), (18, 1), (19, 1)]) := by kernel_rfl
theorem mk22 : K.mkOf Try.prog 22 = some (35, [.int .i64 0, .int .i64 0, .int .i64 0, .int .i64 0, .int .i64 0, .bool false, .int .i64 0, .int .i64 0, .int .i64 0, .int .i64 0, .slice none 0 0, .int .i64 0, .int .i64 0, .int .i64 0, .int .i64 0, .bool false, .int .i64 0, .int .i64 0, .int .i64 0, .int .i64 0], 176) := by kernel_rfl
/- turntable/turntablelaw14.EntryBack -/
set_option maxHeartbeats 8000000 in
set_option maxRecDepth 100000 in
theorem back_any {a : Option Addr} {n c : Nat} {l : List OX} (w : World) (hL : Sl w 20 a n (l.flatMap encP)) (hG : ∀ q ∈ l, OGood w q) (hn : n ≤ 9223372036854775807) (id : Int) {y : EX} {b : Option Addr} {cb : Nat} (hE : EGood w y b) :
    Calls Try.prog 8 #[.slice a n c, .int .i64 id, .agg (encE y b cb).toArray] w fun e w' => e = .returned (.bool true) ∧ Tr w [] w' [] := by
  have hl : l.length = n := hL.count (by omega) encP_len
  refine K.enter0 (args := [_, _, _]) Try.func8 rfl Try.ntmps8 rfl ?_
  refine K.GC.seq ?_
  refine K.GC.region ?_
  refine K.GL.box rfl rfl rfl (fun b5 => ?_)
  refine K.GL.det (K.e_assign rfl) rfl ?_
  refine K.GL.nil ?_
  refine K.GQ.go ?_
  refine K.GC.seq ?_
  refine K.GC.region ?_
  refine K.GL.det (K.e_call1 Try.call9 rfl (fun w hT => head_con)) rfl ?_
  refine K.GL.det (K.e_assign rfl) rfl ?_
  refine K.GL.nil ?_
  refine K.GQ.go ?_
  refine K.GC.seq ?_
  refine K.GC.region ?_
  refine gl_new Try.call10 rfl rfl (fun d g1 hk1 hv1 => ?_)
  refine K.GL.det (K.e_assign rfl) rfl ?_
  refine K.GL.nil ?_
  refine K.GQ.go ?_
  refine K.GC.seq ?_
  refine K.GC.seq ?_
  refine K.GC.region ?_
  refine K.GL.det (K.e_move rfl) rfl ?_
  refine K.GL.det ((K.e_eqlp Try.underlying24 rfl rfl).cast_bool (b := false) rfl) rfl ?_
  refine K.GL.det (K.e_move rfl) rfl ?_
  first | refine K.GL.splitB 22 rfl (fun h1 => ?_) (fun h1 => ?_) | skip
  all_goals first | exact absurd h1 (by decide) | replace h1 := of_decide_eq_true h1 | replace h1 := of_decide_eq_false h1 | skip
  all_goals
    first | (refine K.GL.want 22 rfl rfl rfl ?_; first | refine K.GL.det (K.e_move rfl) rfl ?_) | refine K.GL.skip 22 rfl rfl rfl rfl ?_ | refine K.GL.skipU 22 rfl rfl rfl rfl ?_
    first
      | refine K.GL.skip 22 rfl rfl rfl rfl ?_
      | refine K.GL.skipU 22 rfl rfl rfl rfl ?_
      | (refine K.GL.want 22 rfl rfl rfl ?_
         refine gl_great (l := l) Try.call11 rfl (fun w hT => ⟨hL.stay hT (fun r hr => by cases hr), fun q hq => (hG q hq).e.sl.stay hT (fun r hr => by cases hr)⟩) (by omega) (fun q hq => (hG q hq).e.lt) rfl (fun gr24 hg24 => ?_)
         rcases gr24 with _ | _)
    all_goals
      first | refine K.GL.det (K.e_pick_t rfl rfl) rfl ?_ | refine K.GL.det (K.e_pick_f rfl rfl) rfl ?_
      refine K.GL.det (K.e_move rfl) rfl ?_
      first | refine K.GL.splitB 26 rfl (fun h2 => ?_) (fun h2 => ?_) | skip
      all_goals first | exact absurd h2 (by decide) | replace h2 := of_decide_eq_true h2 | replace h2 := of_decide_eq_false h2 | skip
      all_goals
        first | (refine K.GL.want 26 rfl rfl rfl ?_; first | refine K.GL.det (K.e_loads Try.isAgg33 Try.sizeOf33 rfl rfl) rfl ?_) | refine K.GL.skip 26 rfl rfl rfl rfl ?_ | refine K.GL.skipU 26 rfl rfl rfl rfl ?_
        first | (refine K.GL.want 26 rfl rfl rfl ?_; first | refine K.GL.det (K.e_build lay35 rfl) rfl ?_) | refine K.GL.skip 26 rfl rfl rfl rfl ?_ | refine K.GL.skipU 26 rfl rfl rfl rfl ?_
        first
          | refine K.GL.skip 26 rfl rfl rfl rfl ?_
          | refine K.GL.skipU 26 rfl rfl rfl rfl ?_
          | (refine K.GL.want 26 rfl rfl rfl ?_
             refine K.GL.buildSlice mk22 rfl rfl rfl (fun b29 => ?_))
        first
          | refine K.GL.skip 26 rfl rfl rfl rfl ?_
          | refine K.GL.skipU 26 rfl rfl rfl rfl ?_
          | (refine K.GL.want 26 rfl rfl rfl ?_
             refine gl_great (l := [opE y b cb]) Try.call11 rfl (fun w hT => ⟨Sl.of_block (hT.ok _ List.mem_cons_self) rfl, fun q hq => by simp only [List.mem_singleton] at hq; subst hq; exact hE.sl.stay hT (fun r hr => by cases hr)⟩) (by omega) (fun q hq => by simp only [List.mem_singleton] at hq; subst hq; exact hE.lt) rfl (fun gr30 hg30 => ?_)
             rcases gr30 with _ | _)
        all_goals
          first | refine K.GL.det (K.e_pick_t rfl rfl) rfl ?_ | refine K.GL.det (K.e_pick_f rfl rfl) rfl ?_
          refine K.GL.nil ?_
          refine K.GQ.go ?_
          refine K.GC.condB rfl (fun h3 => ?_) (fun h3 => ?_)
          · first
            | exact absurd h3 (by decide)
            | try replace h3 := of_decide_eq_true h3
              refine K.GC.seq ?_
              refine K.GC.region ?_
              refine K.GL.det (K.e_move rfl) rfl ?_
              refine K.GL.det ((K.e_neqp Try.underlying24 rfl rfl).cast_bool (b := true) rfl) rfl ?_
              refine K.GL.det (K.e_move rfl) rfl ?_
              first | refine K.GL.splitB 34 rfl (fun h4 => ?_) (fun h4 => ?_) | skip
              all_goals first | exact absurd h4 (by decide) | replace h4 := of_decide_eq_true h4 | replace h4 := of_decide_eq_false h4 | skip
              all_goals
                first | (refine K.GL.want 34 rfl rfl rfl ?_; first | refine K.GL.det (K.e_move rfl) rfl ?_) | refine K.GL.skip 34 rfl rfl rfl rfl ?_ | refine K.GL.skipU 34 rfl rfl rfl rfl ?_
                first | refine K.GL.det (K.e_pick_t rfl rfl) rfl ?_ | refine K.GL.det (K.e_pick_f rfl rfl) rfl ?_
                refine K.GL.det (K.e_assign rfl) rfl ?_
                refine K.GL.nil ?_
                refine K.GQ.go ?_
                refine K.GC.ret ?_
                refine K.GQ.then_ret ?_
                refine K.GQ.ret1 Try.results8 rfl (fun w hT => ?_)
                exact ⟨rfl, hT.nil⟩
          · first
            | exact absurd h3 (by decide)
            | try replace h3 := of_decide_eq_false h3
              refine K.GC.skip ?_
              refine K.GQ.go ?_
              refine K.GC.seq ?_
              refine K.GC.seq ?_
              have hgs := hg24 rfl
              have hge := hg30 rfl
              refine K.GC.region ?_
              refine K.GL.det (K.e_assign rfl) rfl ?_
              refine K.GL.nil ?_
              refine K.GQ.go ?_
              refine K.GC.block ?_
              refine K.GC.loopk (α := Nat × IG) [0, 1, 5, 6, 7, 8, 10, 11, 12, 13, 14, 15, 16, 17, 50, 51, 52, 53, 54, 55, 56, 57, 58, 59, 60, 61, 62, 63, 64, 65, 66, 67, 68, 69, 70, 71, 72, 73, 74, 75, 76, 77, 78, 79, 80, 81, 82, 83, 84, 85, 86, 87, 88, 90, 91, 92, 93, 94, 96, 97, 98, 99, 100, 101, 102, 103, 105, 106, 107, 108, 109, 110, 111, 112, 113, 114, 115, 116, 117, 118, 119, 120, 121, 122, 123, 124, 125, 126, 127, 128, 129, 130, 131, 132, 133, 134, 136, 137, 138, 139, 141, 142, 143, 144, 145, 146, 147, 148, 149, 150, 151, 152, 153, 154, 155, 156, 157, 158, 159, 160, 161, 162] rfl (fun x => [(9, .int .i64 (x.1 : Int))]) (fun x => [IdxR d x.2, cl b5 33 (encE y b cb)]) (fun x => x.1 ≤ n ∧ x.2.Ok ∧ x.2.es.length ≤ x.1) (fun x => (n - x.1)) (0, g1) ⟨Nat.zero_le _, hk1, by rw [← IG.ents_length, hv1]; exact Nat.le_refl _⟩ (by (repeat refine ⟨rfl, ?_⟩); exact trivial) (Sub.take (i := 1) rfl (Sub.take (i := 1) rfl (Sub.nil _))) (fun x hI => ?_)
              obtain ⟨x, g⟩ := x
              obtain ⟨hx, hk, hz⟩ := hI
              simp only at hx hk hz ⊢
              refine K.GC.seq ?_
              refine K.GC.seq ?_
              refine K.GC.region ?_
              refine K.GL.det (K.e_move rfl) rfl ?_
              refine K.GL.det (K.e_move rfl) rfl ?_
              refine K.GL.det (K.e_len Try.underlying22 rfl) rfl ?_
              first | refine K.GL.det ((K.e_lt rfl rfl).yes (by first | omega | assumption | decide +kernel)) rfl ?_ | refine K.GL.det ((K.e_lt rfl rfl).no (by first | omega | assumption | decide +kernel)) rfl ?_ | refine K.GL.det (K.e_lt rfl rfl) rfl ?_
              refine K.GL.nil ?_
              refine K.GQ.go ?_
              refine K.GC.condB rfl (fun h5 => ?_) (fun h5 => ?_)
              · first
                | exact absurd h5 (by decide)
                | try replace h5 := of_decide_eq_true h5
                  refine K.GC.skip ?_
                  refine K.GQ.go ?_
                  refine K.GC.seq ?_
                  refine K.GC.block ?_
                  obtain ⟨q, hq⟩ : ∃ q, l[x]? = some q := get_ex (by omega)
                  refine K.GC.region ?_
                  refine K.GL.det (K.e_move rfl) rfl ?_
                  refine K.GL.det (K.e_move rfl) rfl ?_
                  refine K.GL.det (K.e_move rfl) rfl ?_
                  refine K.GL.det (K.e_indexAddrS sl22 rfl rfl hL (by omega) (by omega)) rfl ?_
                  refine K.GL.det (K.e_fieldAddr fo35_1 rfl) rfl ?_
                  refine K.GL.det (K.e_loadsw (vs := encE q.e q.ea q.ec) Try.isAgg33 Try.sizeOf33 rfl (fun w hT j v hj => hT.cell0 (op_ent hL hq j v hj)) rfl) rfl ?_
                  refine gl_put (x := q.e) (a0 := q.ea) (c0 := q.ec) (was := (xget q.e.id g.ents).isSome) Try.call17 rfl hk rfl (fun w hT => ⟨(hG q (List.mem_of_getElem? hq)).e.sl.stay hT (fun r hr => by cases hr), fun h0 => apart_old (hG q (List.mem_of_getElem? hq)).e.sl (by omega) hT PickI.mem h0⟩) (hG q (List.mem_of_getElem? hq)).e.id (hgs.2 q (List.mem_of_getElem? hq)) rfl (fun g2 hk2 hv2 => ?_)
                  refine K.GL.nil ?_
                  refine K.GQ.block_normal ?_
                  refine K.GQ.go ?_
                  refine K.GC.region ?_
                  refine K.GL.det (K.e_move rfl) rfl ?_
                  first | refine K.GL.det (K.e_add rfl rfl ⟨by omega, by omega⟩) rfl ?_ | refine K.GL.det (K.e_addw rfl rfl) rfl ?_
                  refine K.GL.det (K.e_assign rfl) rfl ?_
                  refine K.GL.nil ?_
                  exact K.GQ.round (x + 1, g2) ⟨by simp only; omega, hk2, put_len hz hv2⟩ (by simp only; omega) (by (repeat refine ⟨rfl, ?_⟩); exact trivial) (Sub.take (i := 0) rfl (Sub.take (i := 0) rfl (Sub.nil _)))
              · first
                | exact absurd h5 (by decide)
                | try replace h5 := of_decide_eq_false h5
                  refine K.GC.exit ?_
                  refine K.GQ.then_exit ?_
                  refine K.GQ.then_exit ?_
                  refine K.GQ.block_hit ?_
                  refine K.GQ.go ?_
                  refine K.GC.seq ?_
                  have hz9 : g.es.length ≤ 9000 := by omega
                  refine K.GC.region ?_
                  refine K.GL.det (K.e_move rfl) rfl ?_
                  refine gl_all Try.call32 rfl hk hz9 rfl (fun l51 a51 c51 hl51 => ?_)
                  have hn51 := all_len hl51
                  refine K.GL.det (K.e_assign rfl) rfl ?_
                  refine K.GL.nil ?_
                  refine K.GQ.go ?_
                  refine K.GC.seq ?_
                  refine K.GC.region ?_
                  refine K.GL.det (K.e_move rfl) rfl ?_
                  refine K.GL.det (K.e_move rfl) rfl ?_
                  refine gl_get (r := xget id g.ents) Try.call12 rfl hk rfl rfl (fun a55 c55 => ?_)
                  refine K.GL.det (K.e_move rfl) rfl ?_
                  refine K.GL.det (K.e_extract rfl rfl) rfl ?_
                  refine K.GL.det (K.e_extract rfl rfl) rfl ?_
                  refine K.GL.alloc Try.zeroValue33 rfl rfl (fun b11 => ?_)
                  refine K.GL.store rfl rfl rfl Try.sizeOf33 rfl rfl ?_
                  refine K.GL.det (K.e_assign rfl) rfl ?_
                  refine K.GL.nil ?_
                  refine K.GQ.go ?_
                  refine K.GC.seq ?_
                  refine K.GC.region ?_
                  refine K.GL.det (K.e_move rfl) rfl ?_
                  refine K.GL.det (K.e_move rfl) rfl ?_
                  refine K.GL.det (K.e_fieldAddr fo33_0 rfl) rfl ?_
                  refine K.GL.det (K.e_fieldAddr fo28_4 rfl) rfl ?_
                  first | refine K.GL.det (K.e_load Try.isAgg4 rfl rfl) rfl ?_ | refine K.GL.det (K.e_load0 Try.isAgg4 rfl (by assumption)) rfl ?_
                  first | refine K.GL.det (K.e_notp rfl) rfl ?_ | refine K.GL.det (K.e_not rfl) rfl ?_
                  refine gl_pin (was := (xget id g.ents).isSome) Try.call14 rfl hk rfl rfl (fun g3 hk3 hv3 => ?_)
                  have hs3 : (xget id g3.ents).isSome = (xget id g.ents).isSome := mod_some hv3 (fun _ => rfl)
                  refine K.GL.det (K.e_assign rfl) rfl ?_
                  refine K.GL.nil ?_
                  refine K.GQ.go ?_
                  refine K.GC.seq ?_
                  refine K.GC.region ?_
                  refine K.GL.det (K.e_move rfl) rfl ?_
                  refine K.GL.det (K.e_move rfl) rfl ?_
                  refine K.GL.det (K.e_fieldAddr fo33_0 rfl) rfl ?_
                  refine K.GL.det (K.e_fieldAddr fo28_1 rfl) rfl ?_
                  first | refine K.GL.det (K.e_load Try.isAgg3 rfl rfl) rfl ?_ | refine K.GL.det (K.e_load0 Try.isAgg3 rfl (by assumption)) rfl ?_
                  refine K.GL.det (K.e_xor rfl rfl) rfl ?_
                  refine gl_class (was := (xget id g.ents).isSome) Try.call15 rfl hk3 hs3 rfl (fun g4 hk4 hv4 => ?_)
                  have hs4 : (xget id g4.ents).isSome = (xget id g.ents).isSome := (mod_some hv4 (fun _ => rfl)).trans hs3
                  refine K.GL.det (K.e_assign rfl) rfl ?_
                  refine K.GL.nil ?_
                  refine K.GQ.go ?_
                  refine K.GC.seq ?_
                  refine K.GC.region ?_
                  refine K.GL.det (K.e_move rfl) rfl ?_
                  refine K.GL.det (K.e_move rfl) rfl ?_
                  refine K.GL.det (K.e_fieldAddr fo33_2 rfl) rfl ?_
                  first | refine K.GL.det (K.e_load Try.isAgg2 rfl rfl) rfl ?_ | refine K.GL.det (K.e_load0 Try.isAgg2 rfl (by assumption)) rfl ?_
                  refine K.GL.det (K.e_xor rfl rfl) rfl ?_
                  refine K.GL.det (K.e_fieldAddr fo33_3 rfl) rfl ?_
                  first | refine K.GL.det (K.e_load Try.isAgg3 rfl rfl) rfl ?_ | refine K.GL.det (K.e_load0 Try.isAgg3 rfl (by assumption)) rfl ?_
                  refine K.GL.det (K.e_xor rfl rfl) rfl ?_
                  refine K.GL.det (K.e_fieldAddr fo33_4 rfl) rfl ?_
                  first | refine K.GL.det (K.e_load Try.isAgg3 rfl rfl) rfl ?_ | refine K.GL.det (K.e_load0 Try.isAgg3 rfl (by assumption)) rfl ?_
                  refine K.GL.det (K.e_xor rfl rfl) rfl ?_
                  refine gl_move (was := (xget id g.ents).isSome) Try.call16 rfl hk4 hs4 rfl (fun g5 hk5 hv5 => ?_)
                  have hs5 : (xget id g5.ents).isSome = (xget id g.ents).isSome := (mod_some hv5 (fun _ => rfl)).trans hs4
                  refine K.GL.det (K.e_assign rfl) rfl ?_
                  refine K.GL.nil ?_
                  refine K.GQ.go ?_
                  refine K.GC.seq ?_
                  refine K.GC.region ?_
                  refine K.GL.det (K.e_move rfl) rfl ?_
                  refine K.GL.det (K.e_move rfl) rfl ?_
                  refine K.GL.det (K.e_fieldAddr fo33_0 rfl) rfl ?_
                  refine K.GL.det (K.e_fieldAddr fo28_4 rfl) rfl ?_
                  first | refine K.GL.det (K.e_load Try.isAgg4 rfl rfl) rfl ?_ | refine K.GL.det (K.e_load0 Try.isAgg4 rfl (by assumption)) rfl ?_
                  refine gl_pin (was := (xget id g.ents).isSome) Try.call14 rfl hk5 hs5 rfl (fun g6 hk6 hv6 => ?_)
                  have hs6 : (xget id g6.ents).isSome = (xget id g.ents).isSome := (mod_some hv6 (fun _ => rfl)).trans hs5
                  refine K.GL.nil ?_
                  refine K.GQ.go ?_
                  refine K.GC.seq ?_
                  refine K.GC.region ?_
                  refine K.GL.det (K.e_move rfl) rfl ?_
                  refine K.GL.det (K.e_move rfl) rfl ?_
                  refine K.GL.det (K.e_fieldAddr fo33_0 rfl) rfl ?_
                  refine K.GL.det (K.e_fieldAddr fo28_1 rfl) rfl ?_
                  first | refine K.GL.det (K.e_load Try.isAgg3 rfl rfl) rfl ?_ | refine K.GL.det (K.e_load0 Try.isAgg3 rfl (by assumption)) rfl ?_
                  refine gl_class (was := (xget id g.ents).isSome) Try.call15 rfl hk6 hs6 rfl (fun g7 hk7 hv7 => ?_)
                  have hs7 : (xget id g7.ents).isSome = (xget id g.ents).isSome := (mod_some hv7 (fun _ => rfl)).trans hs6
                  refine K.GL.nil ?_
                  refine K.GQ.go ?_
                  refine K.GC.seq ?_
                  refine K.GC.region ?_
                  refine K.GL.det (K.e_move rfl) rfl ?_
                  refine K.GL.det (K.e_move rfl) rfl ?_
                  refine K.GL.det (K.e_fieldAddr fo33_2 rfl) rfl ?_
                  first | refine K.GL.det (K.e_load Try.isAgg2 rfl rfl) rfl ?_ | refine K.GL.det (K.e_load0 Try.isAgg2 rfl (by assumption)) rfl ?_
                  refine K.GL.det (K.e_fieldAddr fo33_3 rfl) rfl ?_
                  first | refine K.GL.det (K.e_load Try.isAgg3 rfl rfl) rfl ?_ | refine K.GL.det (K.e_load0 Try.isAgg3 rfl (by assumption)) rfl ?_
                  refine K.GL.det (K.e_fieldAddr fo33_4 rfl) rfl ?_
                  first | refine K.GL.det (K.e_load Try.isAgg3 rfl rfl) rfl ?_ | refine K.GL.det (K.e_load0 Try.isAgg3 rfl (by assumption)) rfl ?_
                  refine gl_move (was := (xget id g.ents).isSome) Try.call16 rfl hk7 hs7 rfl (fun g8 hk8 hv8 => ?_)
                  have hs8 : (xget id g8.ents).isSome = (xget id g.ents).isSome := (mod_some hv8 (fun _ => rfl)).trans hs7
                  have hback : g8.ents = g.ents := by rw [hv8, hv7, hv6, hv5, hv4, hv3]; exact back_six
                  have hz8 : g8.es.length ≤ 9000 := by rw [← IG.ents_length, hback, IG.ents_length]; exact hz9
                  refine K.GL.nil ?_
                  refine K.GQ.go ?_
                  refine K.GC.seq ?_
                  refine K.GC.seq ?_
                  refine K.GC.region ?_
                  refine K.GL.det (K.e_move rfl) rfl ?_
                  refine K.GL.det (K.e_move rfl) rfl ?_
                  refine K.GL.det ((K.e_neb Try.underlying4 rfl rfl).cast_bool (b := false) (by first | rfl | simp)) rfl ?_
                  refine K.GL.det (K.e_move rfl) rfl ?_
                  first | refine K.GL.splitB 108 rfl (fun h6 => ?_) (fun h6 => ?_) | skip
                  all_goals first | exact absurd h6 (by decide) | replace h6 := of_decide_eq_true h6 | replace h6 := of_decide_eq_false h6 | skip
                  all_goals
                    first | (refine K.GL.want 108 rfl rfl rfl ?_; first | refine K.GL.det (K.e_move rfl) rfl ?_) | refine K.GL.skip 108 rfl rfl rfl rfl ?_ | refine K.GL.skipU 108 rfl rfl rfl rfl ?_
                    first | (refine K.GL.want 108 rfl rfl rfl ?_; first | refine K.GL.det (K.e_move rfl) rfl ?_) | refine K.GL.skip 108 rfl rfl rfl rfl ?_ | refine K.GL.skipU 108 rfl rfl rfl rfl ?_
                    first | (refine K.GL.want 108 rfl rfl rfl ?_; first | refine K.GL.det ((K.e_neb Try.underlying4 rfl rfl).cast_bool (b := false) (by first | rfl | simp)) rfl ?_) | refine K.GL.skip 108 rfl rfl rfl rfl ?_ | refine K.GL.skipU 108 rfl rfl rfl rfl ?_
                    first | refine K.GL.det (K.e_pick_t rfl rfl) rfl ?_ | refine K.GL.det (K.e_pick_f rfl rfl) rfl ?_
                    refine K.GL.det (K.e_move rfl) rfl ?_
                    first | refine K.GL.splitB 113 rfl (fun h7 => ?_) (fun h7 => ?_) | skip
                    all_goals first | exact absurd h7 (by decide) | replace h7 := of_decide_eq_true h7 | replace h7 := of_decide_eq_false h7 | skip
                    all_goals
                      first | (refine K.GL.want 113 rfl rfl rfl ?_; first | refine K.GL.det (K.e_move rfl) rfl ?_) | refine K.GL.skip 113 rfl rfl rfl rfl ?_ | refine K.GL.skipU 113 rfl rfl rfl rfl ?_
                      first | (refine K.GL.want 113 rfl rfl rfl ?_; first | refine K.GL.det (K.e_move rfl) rfl ?_) | refine K.GL.skip 113 rfl rfl rfl rfl ?_ | refine K.GL.skipU 113 rfl rfl rfl rfl ?_
                      first | (refine K.GL.want 113 rfl rfl rfl ?_; first | refine K.GL.det ((K.e_neb Try.underlying4 rfl rfl).cast_bool (b := false) (by first | rfl | simp)) rfl ?_) | refine K.GL.skip 113 rfl rfl rfl rfl ?_ | refine K.GL.skipU 113 rfl rfl rfl rfl ?_
                      first | refine K.GL.det (K.e_pick_t rfl rfl) rfl ?_ | refine K.GL.det (K.e_pick_f rfl rfl) rfl ?_
                      refine K.GL.det (K.e_move rfl) rfl ?_
                      first | refine K.GL.splitB 118 rfl (fun h8 => ?_) (fun h8 => ?_) | skip
                      all_goals first | exact absurd h8 (by decide) | replace h8 := of_decide_eq_true h8 | replace h8 := of_decide_eq_false h8 | skip
                      all_goals
                        first | (refine K.GL.want 118 rfl rfl rfl ?_; first | refine K.GL.det (K.e_move rfl) rfl ?_) | refine K.GL.skip 118 rfl rfl rfl rfl ?_ | refine K.GL.skipU 118 rfl rfl rfl rfl ?_
                        first
                          | refine K.GL.skip 118 rfl rfl rfl rfl ?_
                          | refine K.GL.skipU 118 rfl rfl rfl rfl ?_
                          | (refine K.GL.want 118 rfl rfl rfl ?_
                             refine gl_all Try.call32 rfl hk8 hz8 rfl (fun l120 a120 c120 hl120 => ?_)
                             have hn120 := all_len hl120)
                        first | (refine K.GL.want 118 rfl rfl rfl ?_; first | refine K.GL.det (K.e_move rfl) rfl ?_) | refine K.GL.skip 118 rfl rfl rfl rfl ?_ | refine K.GL.skipU 118 rfl rfl rfl rfl ?_
                        first | (refine K.GL.want 118 rfl rfl rfl ?_; first | refine K.GL.det ((K.e_call1 Try.call31 rfl (fun w hT => entries_row (l := l120) (k := l51) hT (List.mem_of_getElem? (i := 0) rfl) (List.mem_of_getElem? (i := 5) rfl) (List.mem_of_getElem? (i := 1) rfl) (List.mem_of_getElem? (i := 6) rfl) (all_sv hk8 hl120) (by omega))).yes (by rw [hl120, hl51, all_of hback])) rfl ?_) | refine K.GL.skip 118 rfl rfl rfl rfl ?_ | refine K.GL.skipU 118 rfl rfl rfl rfl ?_
                        first | (refine K.GL.want 118 rfl rfl rfl ?_; first | refine K.GL.det ((K.e_not rfl).cast_bool (b := false) rfl) rfl ?_) | refine K.GL.skip 118 rfl rfl rfl rfl ?_ | refine K.GL.skipU 118 rfl rfl rfl rfl ?_
                        first | refine K.GL.det (K.e_pick_t rfl rfl) rfl ?_ | refine K.GL.det (K.e_pick_f rfl rfl) rfl ?_
                        refine K.GL.nil ?_
                        refine K.GQ.go ?_
                        refine K.GC.condB rfl (fun h9 => ?_) (fun h9 => ?_)
                        · first
                          | exact absurd h9 (by decide)
                          | try replace h9 := of_decide_eq_true h9
                            refine K.GC.seq ?_
                            refine K.GC.region ?_
                            refine K.GL.det (K.e_assign rfl) rfl ?_
                            refine K.GL.nil ?_
                            refine K.GQ.go ?_
                            refine K.GC.ret ?_
                            refine K.GQ.then_ret ?_
                            refine K.GQ.ret1 Try.results8 rfl (fun w hT => ?_)
                            exact ⟨rfl, hT.nil⟩
                        · first
                          | exact absurd h9 (by decide)
                          | try replace h9 := of_decide_eq_false h9
                            refine K.GC.skip ?_
                            refine K.GQ.go ?_
                            refine K.GC.seq ?_
                            rcases hr : xget y.id g8.ents with _ | y0
                            all_goals
                              refine K.GC.region ?_
                              refine K.GL.det (K.e_move rfl) rfl ?_
                              refine K.GL.det (K.e_fieldAddr fo33_0 rfl) rfl ?_
                              refine K.GL.det (K.e_fieldAddr fo28_0 rfl) rfl ?_
                              first | refine K.GL.det (K.e_load Try.isAgg2 rfl rfl) rfl ?_ | refine K.GL.det (K.e_load0 Try.isAgg2 rfl (by assumption)) rfl ?_
                              refine gl_get Try.call12 rfl hk8 hr rfl (fun a130 c130 => ?_)
                              refine K.GL.det (K.e_move rfl) rfl ?_
                              refine K.GL.det (K.e_extract rfl rfl) rfl ?_
                              first | refine K.GL.det ((K.e_extract rfl rfl).cast_bool (b := true) rfl) rfl ?_ | refine K.GL.det ((K.e_extract rfl rfl).cast_bool (b := false) rfl) rfl ?_
                              refine K.GL.alloc Try.zeroValue33 rfl rfl (fun b16 => ?_)
                              refine K.GL.store rfl rfl rfl Try.sizeOf33 rfl rfl ?_
                              refine K.GL.det (K.e_assign rfl) rfl ?_
                              refine K.GL.nil ?_
                              refine K.GQ.go ?_
                              refine K.GC.seq ?_
                              refine K.GC.region ?_
                              refine K.GL.det (K.e_move rfl) rfl ?_
                              refine K.GL.det (K.e_loads Try.isAgg33 Try.sizeOf33 rfl rfl) rfl ?_
                              refine gl_put (x := y) (a0 := b) (c0 := cb) (was := (xget y.id g8.ents).isSome) Try.call17 rfl hk8 rfl (fun w hT => ⟨hE.sl.stay hT (fun r hr => by cases hr), fun h0 => apart_old hE.sl (by omega) hT PickI.mem h0⟩) hE.id (hge.2 _ List.mem_cons_self) rfl (fun g9 hk9 hv9 => ?_)
                              refine K.GL.nil ?_
                              refine K.GQ.go ?_
                              refine K.GC.seq ?_
                              refine K.GC.region ?_
                              refine K.GL.det (K.e_move rfl) rfl ?_
                              refine K.GL.det (K.e_fieldAddr fo33_0 rfl) rfl ?_
                              refine K.GL.det (K.e_fieldAddr fo28_0 rfl) rfl ?_
                              first | refine K.GL.det (K.e_load Try.isAgg2 rfl rfl) rfl ?_ | refine K.GL.det (K.e_load0 Try.isAgg2 rfl (by assumption)) rfl ?_
                              refine gl_del (was := (xget y.id g9.ents).isSome) Try.call13 rfl hk9 rfl rfl (fun g10 hk10 hv10 => ?_)
                              refine K.GL.nil ?_
                              refine K.GQ.go ?_
                              refine K.GC.seq ?_
                              first
                                | (have hlen : g10.ents.length + 1 = l51.length := by rw [hv10, hv9, del_put_len hr, hback, IG.ents_length]; exact (all_len hl51).symm)
                                | (have hsame : g10.ents = g.ents := by rw [hv10, hv9, del_put hr]; exact hback
                                   have hz10 : g10.es.length ≤ 9000 := by rw [← IG.ents_length, hsame, IG.ents_length]; exact hz9)
                              refine K.GC.region ?_
                              refine K.GL.det (K.e_move rfl) rfl ?_
                              refine K.GL.det (K.e_move rfl) rfl ?_
                              first | refine K.GL.splitB 142 rfl (fun h10 => ?_) (fun h10 => ?_) | skip
                              all_goals first | exact absurd h10 (by decide) | replace h10 := of_decide_eq_true h10 | replace h10 := of_decide_eq_false h10 | skip
                              all_goals
                                first | (refine K.GL.want 142 rfl rfl rfl ?_; first | refine K.GL.det (K.e_move rfl) rfl ?_) | refine K.GL.skip 142 rfl rfl rfl rfl ?_ | refine K.GL.skipU 142 rfl rfl rfl rfl ?_
                                first | (refine K.GL.want 142 rfl rfl rfl ?_; first | refine K.GL.det (K.e_move rfl) rfl ?_) | refine K.GL.skip 142 rfl rfl rfl rfl ?_ | refine K.GL.skipU 142 rfl rfl rfl rfl ?_
                                first | refine K.GL.splitB 144 rfl (fun h11 => ?_) (fun h11 => ?_) | skip
                                all_goals first | exact absurd h11 (by decide) | replace h11 := of_decide_eq_true h11 | replace h11 := of_decide_eq_false h11 | skip
                                all_goals
                                  first | (refine K.GL.want 144 rfl rfl rfl ?_; first | refine K.GL.det (K.e_move rfl) rfl ?_) | refine K.GL.skip 144 rfl rfl rfl rfl ?_ | refine K.GL.skipU 144 rfl rfl rfl rfl ?_
                                  first | (refine K.GL.want 144 rfl rfl rfl ?_; first | refine K.GL.det (K.e_call1 Try.call26 rfl (fun w hT => many_con (hT.ok _ PickI.mem))) rfl ?_) | refine K.GL.skip 144 rfl rfl rfl rfl ?_ | refine K.GL.skipU 144 rfl rfl rfl rfl ?_
                                  first | (refine K.GL.want 144 rfl rfl rfl ?_; first | refine K.GL.det (K.e_move rfl) rfl ?_) | refine K.GL.skip 144 rfl rfl rfl rfl ?_ | refine K.GL.skipU 144 rfl rfl rfl rfl ?_
                                  first | (refine K.GL.want 144 rfl rfl rfl ?_; first | refine K.GL.det (K.e_len Try.underlying53 rfl) rfl ?_) | refine K.GL.skip 144 rfl rfl rfl rfl ?_ | refine K.GL.skipU 144 rfl rfl rfl rfl ?_
                                  first | (refine K.GL.want 144 rfl rfl rfl ?_; first | refine K.GL.det (K.e_sub rfl rfl ⟨by omega, by omega⟩) rfl ?_ | refine K.GL.det (K.e_subw rfl rfl) rfl ?_) | refine K.GL.skip 144 rfl rfl rfl rfl ?_ | refine K.GL.skipU 144 rfl rfl rfl rfl ?_
                                  first | (refine K.GL.want 144 rfl rfl rfl ?_; first | refine K.GL.det ((K.e_eq rfl rfl).yes (by omega)) rfl ?_) | refine K.GL.skip 144 rfl rfl rfl rfl ?_ | refine K.GL.skipU 144 rfl rfl rfl rfl ?_
                                  first | (refine K.GL.want 142 rfl rfl rfl ?_; first | refine K.GL.det (K.e_pick_t rfl rfl) rfl ?_ | refine K.GL.det (K.e_pick_f rfl rfl) rfl ?_) | refine K.GL.skip 142 rfl rfl rfl rfl ?_ | refine K.GL.skipU 142 rfl rfl rfl rfl ?_
                                  first | (refine K.GL.want 142 rfl rfl rfl ?_; first | refine K.GL.det (K.e_move rfl) rfl ?_) | refine K.GL.skip 142 rfl rfl rfl rfl ?_ | refine K.GL.skipU 142 rfl rfl rfl rfl ?_
                                  first | refine K.GL.splitB 152 rfl (fun h12 => ?_) (fun h12 => ?_) | skip
                                  all_goals first | exact absurd h12 (by decide) | replace h12 := of_decide_eq_true h12 | replace h12 := of_decide_eq_false h12 | skip
                                  all_goals
                                    first | (refine K.GL.want 152 rfl rfl rfl ?_; first | refine K.GL.det (K.e_move rfl) rfl ?_) | refine K.GL.skip 152 rfl rfl rfl rfl ?_ | refine K.GL.skipU 152 rfl rfl rfl rfl ?_
                                    first | (refine K.GL.want 152 rfl rfl rfl ?_; first | refine K.GL.det ((K.e_not rfl).cast_bool (b := true) rfl) rfl ?_ | refine K.GL.det ((K.e_not rfl).cast_bool (b := false) rfl) rfl ?_) | refine K.GL.skip 152 rfl rfl rfl rfl ?_ | refine K.GL.skipU 152 rfl rfl rfl rfl ?_
                                    first | (refine K.GL.want 152 rfl rfl rfl ?_; first | refine K.GL.det (K.e_move rfl) rfl ?_) | refine K.GL.skip 152 rfl rfl rfl rfl ?_ | refine K.GL.skipU 152 rfl rfl rfl rfl ?_
                                    first | refine K.GL.splitB 155 rfl (fun h13 => ?_) (fun h13 => ?_) | skip
                                    all_goals first | exact absurd h13 (by decide) | replace h13 := of_decide_eq_true h13 | replace h13 := of_decide_eq_false h13 | skip
                                    all_goals
                                      first | (refine K.GL.want 155 rfl rfl rfl ?_; first | refine K.GL.det (K.e_move rfl) rfl ?_) | refine K.GL.skip 155 rfl rfl rfl rfl ?_ | refine K.GL.skipU 155 rfl rfl rfl rfl ?_
                                      first
                                        | refine K.GL.skip 155 rfl rfl rfl rfl ?_
                                        | refine K.GL.skipU 155 rfl rfl rfl rfl ?_
                                        | (refine K.GL.want 155 rfl rfl rfl ?_
                                           refine gl_all Try.call32 rfl hk10 hz10 rfl (fun l157 a157 c157 hl157 => ?_)
                                           have hn157 := all_len hl157)
                                      first | (refine K.GL.want 155 rfl rfl rfl ?_; first | refine K.GL.det (K.e_move rfl) rfl ?_) | refine K.GL.skip 155 rfl rfl rfl rfl ?_ | refine K.GL.skipU 155 rfl rfl rfl rfl ?_
                                      first | (refine K.GL.want 155 rfl rfl rfl ?_; first | refine K.GL.det ((K.e_call1 Try.call31 rfl (fun w hT => entries_row (l := l157) (k := l51) hT (List.mem_of_getElem? (i := 0) rfl) (List.mem_of_getElem? (i := 9) rfl) (List.mem_of_getElem? (i := 1) rfl) (List.mem_of_getElem? (i := 10) rfl) (all_sv hk10 hl157) (by omega))).yes (by rw [hl157, hl51, all_of hsame])) rfl ?_) | refine K.GL.skip 155 rfl rfl rfl rfl ?_ | refine K.GL.skipU 155 rfl rfl rfl rfl ?_
                                      first | (refine K.GL.want 152 rfl rfl rfl ?_; first | refine K.GL.det (K.e_pick_t rfl rfl) rfl ?_ | refine K.GL.det (K.e_pick_f rfl rfl) rfl ?_) | refine K.GL.skip 152 rfl rfl rfl rfl ?_ | refine K.GL.skipU 152 rfl rfl rfl rfl ?_
                                      first | (refine K.GL.want 142 rfl rfl rfl ?_; first | refine K.GL.det (K.e_pick_t rfl rfl) rfl ?_ | refine K.GL.det (K.e_pick_f rfl rfl) rfl ?_) | refine K.GL.skip 142 rfl rfl rfl rfl ?_ | refine K.GL.skipU 142 rfl rfl rfl rfl ?_
                                      first | refine K.GL.det (K.e_pick_t rfl rfl) rfl ?_ | refine K.GL.det (K.e_pick_f rfl rfl) rfl ?_
                                      refine K.GL.det (K.e_assign rfl) rfl ?_
                                      refine K.GL.nil ?_
                                      refine K.GQ.go ?_
                                      refine K.GC.ret ?_
                                      refine K.GQ.ret1 Try.results8 rfl (fun w hT => ?_)
                                      exact ⟨rfl, hT.nil⟩

set_option maxHeartbeats 1000000 in
set_option maxRecDepth 100000 in
theorem EntryBack_lifted (os : Os) (started : os.Started) (H : Type) (enc : TypeId × Value → H) :
    ReturnsInHanded {} Try.checked os 8 .any (Rows.entryBackSpec.pre6 enc Try.prog Try.f8 Rows.entryBackRow.domain false) (Rows.entryBackSpec.post enc Try.prog Try.f8 false true false false) := by
  refine returnsInHanded_of_change_sized (C := Try.checked) own started (by kernel_rfl) Try.func8
    (ChangeSpec.witness6 (enc := enc) (C := Try.checked) false ⟨#[], #[.slice none 0 0, .int .i64 0, .agg (encE EX.zero none 0).toArray], []⟩ 8 (by kernel_rfl) (by kernel_rfl) (by kernel_rfl) (by kernel_rfl)) ?_
  intro W base args ds gs before hval0 hW _ hsz0 _
  have hval : ∀ (j : Nat) t v, Try.f8.params[j]? = some t → args[j]? = some v → Value.okWide Try.prog W .any base t v := hval0
  have hsz : (DataW.weightsEach Try.prog (Try.f8.params.toList ++ []) (ds ++ gs)).all (· ≤ reachBytes) = true := hsz0
  have hW' := hW
  obtain ⟨p, q, hA0, hV, hpe, hfz, hnd⟩ := hW
  have hA : DataW.TrodAll enc Try.prog W 0 (fun _ => true) true Try.f8.params.toList args.toList ds p := hA0
  obtain ⟨rfl, rfl⟩ := trodVars_none hV
  rw [Try.params8] at hA hval hsz
  obtain ⟨v0, vs0, d0, ds0, p0, q0, hargs, rfl, rfl, h0, r0⟩ := trodAll_cons hA
  obtain ⟨v1, vs1, d1, ds1, p1, q1, rfl, rfl, rfl, h1, r1⟩ := trodAll_cons r0
  obtain ⟨v2, vs2, d2, ds2, p2, q2, rfl, rfl, rfl, h2, r2⟩ := trodAll_cons r1
  obtain ⟨rfl, rfl, rfl⟩ := trodAll_nil r2
  obtain rfl : args = #[v0, v1, v2] := by cases args; simp_all
  clear hA0 hval0 hsz0 hA hargs
  obtain ⟨ax, nx, cx, rfl⟩ := okWide_slice Try.underlying22 (hval 0 22 _ rfl rfl)
  obtain ⟨fuelx, hfx⟩ := h0
  obtain ⟨ax', nx', cx', lx, hcsx, hnx, hSx, hGx⟩ := open_ops hfx
  have hcsx' : Value.slice ax nx cx = .slice ax' nx' cx' := by simpa [Value.cells] using hcsx
  simp only [Value.slice.injEq] at hcsx'
  obtain ⟨rfl, rfl, rfl⟩ := hcsx'
  unfold maxLen at hnx
  obtain ⟨id, rfl, rfl, rfl, wid⟩ := open_int Try.underlying2 (hval 1 2 _ rfl rfl) h1
  obtain ⟨cse, rfl, _⟩ := okWide_struct Try.underlying33 (hval 2 33 _ rfl rfl)
  obtain ⟨fuele, hfe⟩ := h2
  obtain ⟨xe, ae, ce, hcse, hGe⟩ := open_entry _ _ _ hfe
  obtain rfl : cse = (encE xe ae ce).toArray := by
    have : cse.toList = encE xe ae ce := by simpa [Value.cells] using hcse
    rw [← this]
  have core : Calls Try.prog 8 #[.slice ax nx cx, .int .i64 id, .agg (encE xe ae ce).toArray] W fun e W' => e = .returned (.bool true) ∧ Tr W [] W' [] := back_any W hSx hGx (by omega) id hGe
  exact core.mono fun e W' ⟨he, hT⟩ => ⟨_, he, law_post (tb := 4) hW' rfl rfl Try.underlying4 (fun _ => rfl) laidOut (by kernel_rfl) hT.below⟩
theorem EntryBack_holds : Rows.EntryBackSaid :=
  OpenClaim.holds_of_wide 8 Try.f8 rfl rfl rfl rfl rfl rfl rfl ⟨rfl, rfl, rfl, rfl, rfl⟩ rfl rfl rfl rfl rfl (by kernel_rfl) Try.func8 (by kernel_rfl)
    (of_decide_eq_true (by kernel_rfl)) (by unfold Func.isWrapper; first | (rw [if_pos (by decide +kernel)]; kernel_rfl) | (rw [if_neg (by decide +kernel)]; exact ⟨rfl, rfl⟩))
    (fun os started H enc _ => EntryBack_lifted os started H enc)

end Go.Proofs.Ytcphpcjcbmennaa
