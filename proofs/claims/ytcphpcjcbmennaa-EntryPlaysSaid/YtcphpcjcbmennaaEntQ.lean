/- The document's index: Put. -/
import Derived.Test.YtcphpcjcbmennaaEntP
namespace Go.Proofs.Ytcphpcjcbmennaa
open Go Go.K
set_option linter.unusedVariables false
set_option linter.unusedSimpArgs false
attribute [local irreducible] Calls Ev GL GC GQ GR Code.wp
theorem put_xs {l : List OE} {k : Nat} {o : OE} {ents : List EX} (hn : (ents.map EX.id).Nodup) (hs : l.map OE.x = srt (xdel o.x.id ents)) (hk : k ≤ l.length) (h1 : k = 0 ∨ ∃ y : OE, l[k - 1]? = some y ∧ (y.x.tick < o.x.tick ∨ (y.x.tick = o.x.tick ∧ y.x.id < o.x.id)))
    (h2 : l.length ≤ k ∨ ∃ y : OE, l[k]? = some y ∧ ¬ (y.x.tick < o.x.tick ∨ (y.x.tick = o.x.tick ∧ y.x.id < o.x.id))) : (l.take k ++ o :: l.drop k).map OE.x = srt (xput o.x ents) := by
  have hlen : l.length = (srt (xdel o.x.id ents)).length := by rw [← hs, List.length_map]
  rw [ins_map, hs]
  refine (srt_put hn (by omega) ?_ ?_).symm
  · rcases h1 with h | ⟨y, hy, h⟩
    · exact .inl h
    · exact .inr ⟨y.x, by rw [← hs]; exact map_at hy, h⟩
  · rcases h2 with h | ⟨y, hy, h⟩
    · exact .inl (by omega)
    · exact .inr ⟨y.x, by rw [← hs]; exact map_at hy, h⟩
/- (*turntable/turntableref14.Index).Put -/
set_option maxHeartbeats 4000000 in
set_option maxRecDepth 100000 in
theorem rput_con {rp : Nat} {gr : RI} {q : OE} {w : World} (h9 : SvOk gr.l) (hz : gr.l.length ≤ 8999) (hq9 : q.x.sv.length ≤ 9000) [Old w [RefI rp gr] q.a (K.encS) (q.x.sv)] (hd : Disj [RefI rp gr]) (ho : ∀ r ∈ ([RefI rp gr] : List Res), r.ok w.heap) :
    Calls Try.prog 24 #[.pointer (some ⟨rp, 0, none⟩), .agg (OE.enc q).toArray] w fun e w' => ∃ g' : RI, e = .returned (.bool (xget q.x.id gr.xs).isSome) ∧ SvOk g'.l ∧ g'.l.length ≤ gr.l.length + 1 ∧ (∀ ents : List EX, (ents.map EX.id).Nodup → gr.xs = srt ents → g'.xs = srt (xput q.x ents)) ∧ Tr w [RefI rp gr] w' [RefI rp g'] := by
  refine K.enter (args := [_, _]) Try.func24 rfl Try.ntmps24 rfl hd ho ?_
  refine K.GC.seq ?_
  refine K.GC.region ?_
  refine K.GL.box rfl rfl rfl (fun b3 => ?_)
  refine K.GL.det (K.e_assign rfl) rfl ?_
  refine K.GL.nil ?_
  refine K.GQ.go ?_
  refine K.GC.seq ?_
  refine K.GC.region ?_
  refine K.GL.det (K.e_move rfl) rfl ?_
  first | refine K.GL.det (K.e_fa fo33_0 rfl) rfl ?_ | refine K.GL.det (K.e_fieldAddr fo33_0 rfl) rfl ?_
  first | refine K.GL.det (K.e_fa fo28_0 rfl) rfl ?_ | refine K.GL.det (K.e_fieldAddr fo28_0 rfl) rfl ?_
  refine K.GL.det (K.e_load Try.isAgg2 rfl rfl) rfl ?_
  refine gl_rdel_con Try.call20 rfl (by first | assumption | omega | rfl | decide) (by first | assumption | omega | rfl | decide) rfl (fun g11 h911 hx11 => ?_)
  refine K.GL.det (K.e_assign rfl) rfl ?_
  refine K.GL.nil ?_
  refine K.GQ.go ?_
  refine K.GC.seq ?_
  have hlx : g11.l.length ≤ gr.l.length := by
    have h := congrArg List.length hx11
    rw [List.length_map] at h
    have h2 := xdel_length q.x.id gr.xs
    rw [List.length_map] at h2
    omega
  refine K.GC.res (L' := [RefI rp g11, cl b3 33 (OE.enc q)]) ?_ K.sb
  refine K.GC.tr (L' := [cl rp 68 [.slice g11.a g11.l.length g11.c], trow g11.a g11.c 33 encOE g11.l, all (g11.l.map svR), cl b3 33 (OE.enc q)]) (fun w hT => ropen hT) ?_
  refine K.GC.region ?_
  refine K.GL.det (K.e_assign rfl) rfl ?_
  refine K.GL.nil ?_
  refine K.GQ.go ?_
  refine K.GC.seq ?_
  refine K.GC.block ?_
  refine K.GC.loopk (α := Nat) [0, 3, 4, 5, 66, 67, 68, 69, 70, 71, 72, 73, 74, 75, 76, 77, 78, 79, 80, 81, 82, 83, 84, 85, 86, 87, 88] rfl (fun kk => [(6, .int .i64 (kk : Int))]) (fun kk => [cl rp 68 [.slice g11.a g11.l.length g11.c], trow g11.a g11.c 33 encOE g11.l, all (g11.l.map svR), cl b3 33 (OE.enc q)]) (fun kk => kk ≤ g11.l.length ∧ (kk = 0 ∨ ∃ y : OE, g11.l[kk - 1]? = some y ∧ (y.x.tick < q.x.tick ∨ (y.x.tick = q.x.tick ∧ y.x.id < q.x.id)))) (fun kk => (g11.l.length - kk)) 0 ⟨Nat.zero_le _, Or.inl rfl⟩ (by first | ((repeat refine ⟨rfl, ?_⟩); exact trivial) | (simp only [List.take_zero, List.map_nil, List.flatMap_nil, List.append_nil]; (repeat refine ⟨rfl, ?_⟩); exact trivial)) (K.Sub.refl _) (fun kk hI => ?_)
  have hkk := hI.1
  refine K.GC.seq ?_
  refine K.GC.seq ?_
  rcases Nat.lt_or_ge kk g11.l.length with hkl | hkl
  all_goals first | (have hkm : kk < g11.l.length := (by omega); obtain ⟨y, hy2⟩ : ∃ y, g11.l[kk]? = some y := (get_ex hkm)) | skip
  all_goals first | (have hyy := hy2; rcases (by omega : y.x.tick < q.x.tick ∨ (y.x.tick = q.x.tick ∧ y.x.id < q.x.id) ∨ (y.x.tick = q.x.tick ∧ ¬ y.x.id < q.x.id) ∨ q.x.tick < y.x.tick) with hc | ⟨hc, hc2⟩ | ⟨hc, hc2⟩ | hc) | skip
  all_goals
    refine K.D.GC.drawn0 52 [[], [], [1], [1, 2], [1, 2, 3], [1, 2, 3, 4], [0, 1, 2, 3, 4, 5], [0, 1, 2, 3, 4, 5, 6], [0, 1, 2, 3, 4, 5, 6, 7], [0, 1, 2, 3, 4, 5, 6, 7, 8], [0, 1, 2, 3, 4, 5, 6, 7, 8, 9], [0, 1, 2, 3, 4, 5, 6, 7, 8, 9, 10], [0, 1, 2, 3, 4, 5, 6, 7], [0, 1, 2, 3, 4, 5, 6, 7, 8, 9, 10, 11, 12], [0, 1, 2, 3, 4, 5, 6, 7, 8, 9, 10, 11, 12, 13], [0, 1, 2, 3, 4, 5, 6, 7, 8, 9, 10, 11, 12, 13, 14], [0, 1, 2, 3, 4, 5, 6, 7, 8, 9, 10, 11, 12, 13, 14, 15], [0, 1, 2, 3, 4, 5, 6, 7], [0, 1, 2, 3, 4, 5, 6, 7, 17], [0, 1, 2, 3, 4, 5, 6, 7, 17, 18], [0, 1, 2, 3, 4, 5, 6, 7, 8, 9, 10, 11, 12, 13, 14, 15, 16, 17, 18, 19], [0, 1, 2, 3, 4, 5, 6, 7, 8, 9, 10, 11, 12, 13, 14, 15, 16, 17, 18, 19, 20], [0, 1, 2, 3, 4, 5, 6, 7, 8, 9, 10, 11, 12, 13, 14, 15, 16, 17, 18, 19, 20, 21], [0, 1, 2, 3, 4, 5, 6, 7, 8, 9, 10, 11, 12, 13, 14, 15, 16, 17, 18, 19, 20, 21, 22], [0, 1, 2, 3, 4, 5, 6, 7, 8, 9, 10, 11, 12, 13, 14, 15, 16, 17, 18, 19, 20, 21, 22, 23], [0, 1, 2, 3, 4, 5, 6, 7, 8, 9, 10, 11, 12, 13, 14, 15, 16, 17, 18, 19, 20, 21, 22, 23, 24], [0, 1, 2, 3, 4, 5, 6, 7, 8, 9, 10, 11, 12, 13, 14, 15, 16, 17, 18, 19, 20, 21], [0, 1, 2, 3, 4, 5, 6, 7, 8, 9, 10, 11, 12, 13, 14, 15, 16, 17, 18, 19, 20, 21, 22, 23, 24, 25, 26], [0, 1, 2, 3, 4, 5, 6, 7, 8, 9, 10, 11, 12, 13, 14, 15, 16, 17, 18, 19, 20, 21, 22, 23, 24, 25, 26, 27], [0, 1, 2, 3, 4, 5, 6, 7, 8, 9, 10, 11, 12, 13, 14, 15, 16, 17, 18, 19, 20, 21, 22, 23, 24, 25, 26, 27, 28], [0, 1, 2, 3, 4, 5, 6, 7, 8, 9, 10, 11, 12, 13, 14, 15, 16, 17, 18, 19, 20, 21, 22, 23, 24, 25, 26, 27, 28, 29], [0, 1, 2, 3, 4, 5, 6, 7, 8, 9, 10, 11, 12, 13, 14, 15, 16, 17, 18, 19, 20, 21], [0, 1, 2, 3, 4, 5, 6, 7, 8, 9, 10, 11, 12, 13, 14, 15, 16, 17, 18, 19, 20, 21, 31], [0, 1, 2, 3, 4, 5, 6, 7, 8, 9, 10, 11, 12, 13, 14, 15, 16, 17, 18, 19, 20, 21, 31, 32], [0, 1, 2, 3, 4, 5, 6, 7, 8, 9, 10, 11, 12, 13, 14, 15, 16, 17, 18, 19, 20, 21, 22, 23, 24, 25, 26, 27, 28, 29, 30, 31, 32, 33], [0, 1, 2, 3, 4, 5, 6, 7, 8, 9, 10, 11, 12, 13, 14, 15, 16, 17, 18, 19, 20, 21, 22, 23, 24, 25, 26, 27, 28, 29, 30, 31, 32, 33, 34], [0, 1, 2, 3, 4, 5, 6, 7, 8, 9, 10, 11, 12, 13, 14, 15, 16, 17, 18, 19, 20, 21, 22, 23, 24, 25, 26, 27, 28, 29, 30, 31, 32, 33, 34, 35], [0, 1, 2, 3, 4, 5, 6, 7, 8, 9, 10, 11, 12, 13, 14, 15, 16, 17, 18, 19, 20, 21, 22, 23, 24, 25, 26, 27, 28, 29, 30, 31, 32, 33, 34, 35, 36], [0, 1, 2, 3, 4, 5, 6, 7, 8, 9, 10, 11, 12, 13, 14, 15, 16, 17, 18, 19, 20, 21, 22, 23, 24, 25, 26, 27, 28, 29, 30, 31, 32, 33, 34, 35, 36, 37], [0, 1, 2, 3, 4, 5, 6, 7, 8, 9, 10, 11, 12, 13, 14, 15, 16, 17, 18, 19, 20, 21, 22, 23, 24, 25, 26, 27, 28, 29, 30, 31, 32, 33, 34, 35, 36, 37, 38], [0, 1, 2, 3, 4, 5, 6, 7, 8, 9, 10, 11, 12, 13, 14, 15, 16, 17, 18, 19, 20, 21, 22, 23, 24, 25, 26, 27, 28, 29, 30, 31, 32, 33, 34, 35], [0, 1, 2, 3, 4, 5, 6, 7, 8, 9, 10, 11, 12, 13, 14, 15, 16, 17, 18, 19, 20, 21, 22, 23, 24, 25, 26, 27, 28, 29, 30, 31, 32, 33, 34, 35, 36, 37, 38, 39, 40], [0, 1, 2, 3, 4, 5, 6, 7, 8, 9, 10, 11, 12, 13, 14, 15, 16, 17, 18, 19, 20, 21, 22, 23, 24, 25, 26, 27, 28, 29, 30, 31, 32, 33, 34, 35, 36, 37, 38, 39, 40, 41], [0, 1, 2, 3, 4, 5, 6, 7, 8, 9, 10, 11, 12, 13, 14, 15, 16, 17, 18, 19, 20, 21, 22, 23, 24, 25, 26, 27, 28, 29, 30, 31, 32, 33, 34, 35, 36, 37, 38, 39, 40, 41, 42], [0, 1, 2, 3, 4, 5, 6, 7, 8, 9, 10, 11, 12, 13, 14, 15, 16, 17, 18, 19, 20, 21, 22, 23, 24, 25, 26, 27, 28, 29, 30, 31, 32, 33, 34, 35, 36, 37, 38, 39, 40, 41, 42, 43], [0, 1, 2, 3, 4, 5, 6, 7, 8, 9, 10, 11, 12, 13, 14, 15, 16, 17, 18, 19, 20, 21, 22, 23, 24, 25, 26, 27, 28, 29, 30, 31, 32, 33, 34, 35], [0, 1, 2, 3, 4, 5, 6, 7, 8, 9, 10, 11, 12, 13, 14, 15, 16, 17, 18, 19, 20, 21, 22, 23, 24, 25, 26, 27, 28, 29, 30, 31, 32, 33, 34, 35, 45], [0, 1, 2, 3, 4, 5, 6, 7, 8, 9, 10, 11, 12, 13, 14, 15, 16, 17, 18, 19, 20, 21, 22, 23, 24, 25, 26, 27, 28, 29, 30, 31, 32, 33, 34, 35, 45, 46], [0, 1, 2, 3, 4, 5, 6, 7, 8, 9, 10, 11, 12, 13, 14, 15, 16, 17, 18, 19, 20, 21, 22, 23, 24, 25, 26, 27, 28, 29, 30, 31, 32, 33, 34, 35, 36, 37, 38, 39, 40, 41, 42, 43, 44, 45, 46, 47], [0, 1, 2, 3, 4, 5, 6, 7, 8, 9, 10, 11, 12, 13, 14, 15, 16, 17, 18, 19, 20, 21, 22, 23, 24, 25, 26, 27, 28, 29, 30, 31, 32, 33, 34, 35, 36, 37, 38, 39, 40, 41, 42, 43, 44, 45, 46, 47, 48], [0, 1, 2, 3, 4, 5, 6, 7, 8, 9, 10, 11, 12, 13, 14, 15, 16, 17, 18, 19, 20, 21, 22, 23, 24, 25, 26, 27, 28, 29, 30, 31, 32, 33, 34, 35, 36, 37, 38, 39, 40, 41, 42, 43, 44, 45, 46, 47, 48, 49], [0, 1, 2, 3, 4, 5, 6, 7, 8, 9, 10, 11, 12, 13, 14, 15, 16, 17, 18, 19, 20, 21, 22, 23, 24, 25, 26, 27, 28, 29, 30, 31, 32, 33, 34, 35, 36, 37, 38, 39, 40, 41, 42, 43, 44, 45, 46, 47, 48, 49, 50]] [[], [], [1], [2], [3], [4], [0, 5], [6], [7], [7, 8], [7, 9], [7, 10], [7], [7, 11, 12], [7, 13], [7, 14], [7, 15], [7], [7, 17], [7, 18], [7, 16, 19], [7, 20], [21], [21, 22], [21, 23], [21, 24], [21], [21, 25, 26], [21, 27], [21, 28], [21, 29], [21], [21, 31], [21, 32], [21, 30, 33], [21, 34], [35], [35, 36], [35, 37], [35, 38], [35], [35, 39, 40], [35, 41], [35, 42], [35, 43], [35], [35, 45], [35, 46], [35, 44, 47], [21, 35, 48], [7, 21, 49], [7, 50]] [[], [], [], [], [], [], [], [], [], [], [], [], [], [], [], [], [], [], [], [], [], [], [], [], [], [], [], [], [], [], [], [], [], [], [], [], [], [], [], [], [], [], [], [], [], [], [], [], [], [], [], []] [[], [], [], [], [], [], [], [], [], [], [], [], [], [], [], [], [], [], [], [], [], [], [], [], [], [], [], [], [], [], [], [], [], [], [], [], [], [], [], [], [], [], [], [], [], [], [], [], [], [], [], []] [] [0, 3, 4, 5, 6, 64, 65, 66, 67, 68, 69, 70, 71, 72, 73, 74, 75, 76, 77, 78, 79, 80, 81, 82, 83, 84, 85, 86, 87, 88] (by kernel_rfl) (by kernel_rfl) (by kernel_rfl) rfl ?_
    refine K.D.DW.det (b := []) (u := []) rfl rfl rfl (fun vs hf => K.e_move rfl) ?_
    refine K.D.DW.det (b := []) (u := []) rfl rfl rfl (fun vs hf => K.e_move rfl) ?_
    refine K.D.DW.det (b := [1]) (u := []) rfl rfl rfl (fun vs hf => K.e_nilCheck rfl) ?_
    first | refine K.D.DW.det (b := [2]) (u := []) rfl rfl rfl (fun vs hf => K.e_fa fo68_0 rfl) ?_ | refine K.D.DW.det (b := [2]) (u := []) rfl rfl rfl (fun vs hf => K.e_fieldAddr fo68_0 rfl) ?_
    refine K.D.DW.det (b := [3]) (u := []) rfl rfl rfl (fun vs hf => K.e_load Try.isAgg53 rfl rfl) ?_
    refine K.D.DW.det (b := [4]) (u := []) rfl rfl rfl (fun vs hf => K.e_len Try.underlying53 rfl) ?_
    first | refine K.D.DW.det (b := [0, 5]) (u := []) rfl rfl rfl (fun vs hf => (K.e_lt rfl rfl).yes (by omega)) ?_ | refine K.D.DW.det (b := [0, 5]) (u := []) rfl rfl rfl (fun vs hf => (K.e_lt rfl rfl).no (by omega)) ?_
    refine K.D.DW.det (b := [6]) (u := []) rfl rfl rfl (fun vs hf => K.e_move rfl) ?_
    first | (refine K.D.DW.want (b := [7]) rfl (fun _ => rfl) ?_; first | refine K.D.DW.det (b := [7]) (u := []) rfl rfl rfl (fun vs hf => K.e_move rfl) ?_) | refine K.D.DW.skip (b := [7]) rfl rfl (fun _ => rfl) ?_
    first | (refine K.D.DW.want (b := [7, 8]) rfl (fun _ => rfl) ?_; first | refine K.D.DW.det (b := [7, 8]) (u := []) rfl rfl rfl (fun vs hf => K.e_nilCheck rfl) ?_) | refine K.D.DW.skip (b := [7, 8]) rfl rfl (fun _ => rfl) ?_
    first | (refine K.D.DW.want (b := [7, 9]) rfl (fun _ => rfl) ?_; first | refine K.D.DW.det (b := [7, 9]) (u := []) rfl rfl rfl (fun vs hf => K.e_fa fo68_0 rfl) ?_ | refine K.D.DW.det (b := [7, 9]) (u := []) rfl rfl rfl (fun vs hf => K.e_fieldAddr fo68_0 rfl) ?_) | refine K.D.DW.skip (b := [7, 9]) rfl rfl (fun _ => rfl) ?_
    first | (refine K.D.DW.want (b := [7, 10]) rfl (fun _ => rfl) ?_; first | refine K.D.DW.det (b := [7, 10]) (u := []) rfl rfl rfl (fun vs hf => K.e_load Try.isAgg53 rfl rfl) ?_) | refine K.D.DW.skip (b := [7, 10]) rfl rfl (fun _ => rfl) ?_
    first | (refine K.D.DW.want (b := [7]) rfl (fun _ => rfl) ?_; first | refine K.D.DW.det (b := [7]) (u := []) rfl rfl rfl (fun vs hf => K.e_move rfl) ?_) | refine K.D.DW.skip (b := [7]) rfl rfl (fun _ => rfl) ?_
    first | (refine K.D.DW.want (b := [7, 11, 12]) rfl (fun _ => rfl) ?_; first | refine K.D.DW.det (b := [7, 11, 12]) (u := []) rfl rfl rfl (fun vs hf => K.e_ixN (l := g11.l) (e := encOE) sl53 rfl rfl rfl rfl (by omega)) ?_) | refine K.D.DW.skip (b := [7, 11, 12]) rfl rfl (fun _ => rfl) ?_
    first | (refine K.D.DW.want (b := [7, 13]) rfl (fun _ => rfl) ?_; first | refine K.D.DW.det (b := [7, 13]) (u := []) rfl rfl rfl (fun vs hf => K.e_fa fo33_0 rfl) ?_ | refine K.D.DW.det (b := [7, 13]) (u := []) rfl rfl rfl (fun vs hf => K.e_fieldAddr fo33_0 rfl) ?_) | refine K.D.DW.skip (b := [7, 13]) rfl rfl (fun _ => rfl) ?_
    first | (refine K.D.DW.want (b := [7, 14]) rfl (fun _ => rfl) ?_; first | refine K.D.DW.det (b := [7, 14]) (u := []) rfl rfl rfl (fun vs hf => K.e_fa fo28_2 rfl) ?_ | refine K.D.DW.det (b := [7, 14]) (u := []) rfl rfl rfl (fun vs hf => K.e_fieldAddr fo28_2 rfl) ?_) | refine K.D.DW.skip (b := [7, 14]) rfl rfl (fun _ => rfl) ?_
    first | (refine K.D.DW.want (b := [7, 15]) rfl (fun _ => rfl) ?_; first | refine K.D.DW.det (b := [7, 15]) (u := []) rfl rfl rfl (fun vs hf => K.e_ldF (l := g11.l) (e := encOE) (o := 2) Try.isAgg2 rfl rfl hy2 rfl) ?_) | refine K.D.DW.skip (b := [7, 15]) rfl rfl (fun _ => rfl) ?_
    first | (refine K.D.DW.want (b := [7]) rfl (fun _ => rfl) ?_; first | refine K.D.DW.det (b := [7]) (u := []) rfl rfl rfl (fun vs hf => K.e_fa fo33_0 rfl) ?_ | refine K.D.DW.det (b := [7]) (u := []) rfl rfl rfl (fun vs hf => K.e_fieldAddr fo33_0 rfl) ?_) | refine K.D.DW.skip (b := [7]) rfl rfl (fun _ => rfl) ?_
    first | (refine K.D.DW.want (b := [7, 17]) rfl (fun _ => rfl) ?_; first | refine K.D.DW.det (b := [7, 17]) (u := []) rfl rfl rfl (fun vs hf => K.e_fa fo28_2 rfl) ?_ | refine K.D.DW.det (b := [7, 17]) (u := []) rfl rfl rfl (fun vs hf => K.e_fieldAddr fo28_2 rfl) ?_) | refine K.D.DW.skip (b := [7, 17]) rfl rfl (fun _ => rfl) ?_
    first | (refine K.D.DW.want (b := [7, 18]) rfl (fun _ => rfl) ?_; first | refine K.D.DW.det (b := [7, 18]) (u := []) rfl rfl rfl (fun vs hf => K.e_load Try.isAgg2 rfl rfl) ?_) | refine K.D.DW.skip (b := [7, 18]) rfl rfl (fun _ => rfl) ?_
    first | (refine K.D.DW.want (b := [7, 16, 19]) rfl (fun _ => rfl) ?_; first | refine K.D.DW.det (b := [7, 16, 19]) (u := []) rfl rfl rfl (fun vs hf => (K.e_lt rfl rfl).yes (by omega)) ?_ | refine K.D.DW.det (b := [7, 16, 19]) (u := []) rfl rfl rfl (fun vs hf => (K.e_lt rfl rfl).no (by omega)) ?_) | refine K.D.DW.skip (b := [7, 16, 19]) rfl rfl (fun _ => rfl) ?_
    first | (refine K.D.DW.want (b := [7, 20]) rfl (fun _ => rfl) ?_; first | refine K.D.DW.det (b := [7, 20]) (u := []) rfl rfl rfl (fun vs hf => K.e_move rfl) ?_) | refine K.D.DW.skip (b := [7, 20]) rfl rfl (fun _ => rfl) ?_
    first | (refine K.D.DW.want (b := [21]) rfl (fun _ => rfl) ?_; first | refine K.D.DW.det (b := [21]) (u := []) rfl rfl rfl (fun vs hf => K.e_move rfl) ?_) | refine K.D.DW.skip (b := [21]) rfl rfl (fun _ => rfl) ?_
    first | (refine K.D.DW.want (b := [21, 22]) rfl (fun _ => rfl) ?_; first | refine K.D.DW.det (b := [21, 22]) (u := []) rfl rfl rfl (fun vs hf => K.e_nilCheck rfl) ?_) | refine K.D.DW.skip (b := [21, 22]) rfl rfl (fun _ => rfl) ?_
    first | (refine K.D.DW.want (b := [21, 23]) rfl (fun _ => rfl) ?_; first | refine K.D.DW.det (b := [21, 23]) (u := []) rfl rfl rfl (fun vs hf => K.e_fa fo68_0 rfl) ?_ | refine K.D.DW.det (b := [21, 23]) (u := []) rfl rfl rfl (fun vs hf => K.e_fieldAddr fo68_0 rfl) ?_) | refine K.D.DW.skip (b := [21, 23]) rfl rfl (fun _ => rfl) ?_
    first | (refine K.D.DW.want (b := [21, 24]) rfl (fun _ => rfl) ?_; first | refine K.D.DW.det (b := [21, 24]) (u := []) rfl rfl rfl (fun vs hf => K.e_load Try.isAgg53 rfl rfl) ?_) | refine K.D.DW.skip (b := [21, 24]) rfl rfl (fun _ => rfl) ?_
    first | (refine K.D.DW.want (b := [21]) rfl (fun _ => rfl) ?_; first | refine K.D.DW.det (b := [21]) (u := []) rfl rfl rfl (fun vs hf => K.e_move rfl) ?_) | refine K.D.DW.skip (b := [21]) rfl rfl (fun _ => rfl) ?_
    first | (refine K.D.DW.want (b := [21, 25, 26]) rfl (fun _ => rfl) ?_; first | refine K.D.DW.det (b := [21, 25, 26]) (u := []) rfl rfl rfl (fun vs hf => K.e_ixN (l := g11.l) (e := encOE) sl53 rfl rfl rfl rfl (by omega)) ?_) | refine K.D.DW.skip (b := [21, 25, 26]) rfl rfl (fun _ => rfl) ?_
    first | (refine K.D.DW.want (b := [21, 27]) rfl (fun _ => rfl) ?_; first | refine K.D.DW.det (b := [21, 27]) (u := []) rfl rfl rfl (fun vs hf => K.e_fa fo33_0 rfl) ?_ | refine K.D.DW.det (b := [21, 27]) (u := []) rfl rfl rfl (fun vs hf => K.e_fieldAddr fo33_0 rfl) ?_) | refine K.D.DW.skip (b := [21, 27]) rfl rfl (fun _ => rfl) ?_
    first | (refine K.D.DW.want (b := [21, 28]) rfl (fun _ => rfl) ?_; first | refine K.D.DW.det (b := [21, 28]) (u := []) rfl rfl rfl (fun vs hf => K.e_fa fo28_2 rfl) ?_ | refine K.D.DW.det (b := [21, 28]) (u := []) rfl rfl rfl (fun vs hf => K.e_fieldAddr fo28_2 rfl) ?_) | refine K.D.DW.skip (b := [21, 28]) rfl rfl (fun _ => rfl) ?_
    first | (refine K.D.DW.want (b := [21, 29]) rfl (fun _ => rfl) ?_; first | refine K.D.DW.det (b := [21, 29]) (u := []) rfl rfl rfl (fun vs hf => K.e_ldF (l := g11.l) (e := encOE) (o := 2) Try.isAgg2 rfl rfl hy2 rfl) ?_) | refine K.D.DW.skip (b := [21, 29]) rfl rfl (fun _ => rfl) ?_
    first | (refine K.D.DW.want (b := [21]) rfl (fun _ => rfl) ?_; first | refine K.D.DW.det (b := [21]) (u := []) rfl rfl rfl (fun vs hf => K.e_fa fo33_0 rfl) ?_ | refine K.D.DW.det (b := [21]) (u := []) rfl rfl rfl (fun vs hf => K.e_fieldAddr fo33_0 rfl) ?_) | refine K.D.DW.skip (b := [21]) rfl rfl (fun _ => rfl) ?_
    first | (refine K.D.DW.want (b := [21, 31]) rfl (fun _ => rfl) ?_; first | refine K.D.DW.det (b := [21, 31]) (u := []) rfl rfl rfl (fun vs hf => K.e_fa fo28_2 rfl) ?_ | refine K.D.DW.det (b := [21, 31]) (u := []) rfl rfl rfl (fun vs hf => K.e_fieldAddr fo28_2 rfl) ?_) | refine K.D.DW.skip (b := [21, 31]) rfl rfl (fun _ => rfl) ?_
    first | (refine K.D.DW.want (b := [21, 32]) rfl (fun _ => rfl) ?_; first | refine K.D.DW.det (b := [21, 32]) (u := []) rfl rfl rfl (fun vs hf => K.e_load Try.isAgg2 rfl rfl) ?_) | refine K.D.DW.skip (b := [21, 32]) rfl rfl (fun _ => rfl) ?_
    first | (refine K.D.DW.want (b := [21, 30, 33]) rfl (fun _ => rfl) ?_; first | refine K.D.DW.det (b := [21, 30, 33]) (u := []) rfl rfl rfl (fun vs hf => (K.e_eq rfl rfl).yes (by omega)) ?_ | refine K.D.DW.det (b := [21, 30, 33]) (u := []) rfl rfl rfl (fun vs hf => (K.e_eq rfl rfl).no (by omega)) ?_) | refine K.D.DW.skip (b := [21, 30, 33]) rfl rfl (fun _ => rfl) ?_
    first | (refine K.D.DW.want (b := [21, 34]) rfl (fun _ => rfl) ?_; first | refine K.D.DW.det (b := [21, 34]) (u := []) rfl rfl rfl (fun vs hf => K.e_move rfl) ?_) | refine K.D.DW.skip (b := [21, 34]) rfl rfl (fun _ => rfl) ?_
    first | (refine K.D.DW.want (b := [35]) rfl (fun _ => rfl) ?_; first | refine K.D.DW.det (b := [35]) (u := []) rfl rfl rfl (fun vs hf => K.e_move rfl) ?_) | refine K.D.DW.skip (b := [35]) rfl rfl (fun _ => rfl) ?_
    first | (refine K.D.DW.want (b := [35, 36]) rfl (fun _ => rfl) ?_; first | refine K.D.DW.det (b := [35, 36]) (u := []) rfl rfl rfl (fun vs hf => K.e_nilCheck rfl) ?_) | refine K.D.DW.skip (b := [35, 36]) rfl rfl (fun _ => rfl) ?_
    first | (refine K.D.DW.want (b := [35, 37]) rfl (fun _ => rfl) ?_; first | refine K.D.DW.det (b := [35, 37]) (u := []) rfl rfl rfl (fun vs hf => K.e_fa fo68_0 rfl) ?_ | refine K.D.DW.det (b := [35, 37]) (u := []) rfl rfl rfl (fun vs hf => K.e_fieldAddr fo68_0 rfl) ?_) | refine K.D.DW.skip (b := [35, 37]) rfl rfl (fun _ => rfl) ?_
    first | (refine K.D.DW.want (b := [35, 38]) rfl (fun _ => rfl) ?_; first | refine K.D.DW.det (b := [35, 38]) (u := []) rfl rfl rfl (fun vs hf => K.e_load Try.isAgg53 rfl rfl) ?_) | refine K.D.DW.skip (b := [35, 38]) rfl rfl (fun _ => rfl) ?_
    first | (refine K.D.DW.want (b := [35]) rfl (fun _ => rfl) ?_; first | refine K.D.DW.det (b := [35]) (u := []) rfl rfl rfl (fun vs hf => K.e_move rfl) ?_) | refine K.D.DW.skip (b := [35]) rfl rfl (fun _ => rfl) ?_
    first | (refine K.D.DW.want (b := [35, 39, 40]) rfl (fun _ => rfl) ?_; first | refine K.D.DW.det (b := [35, 39, 40]) (u := []) rfl rfl rfl (fun vs hf => K.e_ixN (l := g11.l) (e := encOE) sl53 rfl rfl rfl rfl (by omega)) ?_) | refine K.D.DW.skip (b := [35, 39, 40]) rfl rfl (fun _ => rfl) ?_
    first | (refine K.D.DW.want (b := [35, 41]) rfl (fun _ => rfl) ?_; first | refine K.D.DW.det (b := [35, 41]) (u := []) rfl rfl rfl (fun vs hf => K.e_fa fo33_0 rfl) ?_ | refine K.D.DW.det (b := [35, 41]) (u := []) rfl rfl rfl (fun vs hf => K.e_fieldAddr fo33_0 rfl) ?_) | refine K.D.DW.skip (b := [35, 41]) rfl rfl (fun _ => rfl) ?_
    first | (refine K.D.DW.want (b := [35, 42]) rfl (fun _ => rfl) ?_; first | refine K.D.DW.det (b := [35, 42]) (u := []) rfl rfl rfl (fun vs hf => K.e_fa fo28_0 rfl) ?_ | refine K.D.DW.det (b := [35, 42]) (u := []) rfl rfl rfl (fun vs hf => K.e_fieldAddr fo28_0 rfl) ?_) | refine K.D.DW.skip (b := [35, 42]) rfl rfl (fun _ => rfl) ?_
    first | (refine K.D.DW.want (b := [35, 43]) rfl (fun _ => rfl) ?_; first | refine K.D.DW.det (b := [35, 43]) (u := []) rfl rfl rfl (fun vs hf => K.e_ldF (l := g11.l) (e := encOE) (o := 0) Try.isAgg2 rfl rfl hy2 rfl) ?_) | refine K.D.DW.skip (b := [35, 43]) rfl rfl (fun _ => rfl) ?_
    first | (refine K.D.DW.want (b := [35]) rfl (fun _ => rfl) ?_; first | refine K.D.DW.det (b := [35]) (u := []) rfl rfl rfl (fun vs hf => K.e_fa fo33_0 rfl) ?_ | refine K.D.DW.det (b := [35]) (u := []) rfl rfl rfl (fun vs hf => K.e_fieldAddr fo33_0 rfl) ?_) | refine K.D.DW.skip (b := [35]) rfl rfl (fun _ => rfl) ?_
    first | (refine K.D.DW.want (b := [35, 45]) rfl (fun _ => rfl) ?_; first | refine K.D.DW.det (b := [35, 45]) (u := []) rfl rfl rfl (fun vs hf => K.e_fa fo28_0 rfl) ?_ | refine K.D.DW.det (b := [35, 45]) (u := []) rfl rfl rfl (fun vs hf => K.e_fieldAddr fo28_0 rfl) ?_) | refine K.D.DW.skip (b := [35, 45]) rfl rfl (fun _ => rfl) ?_
    first | (refine K.D.DW.want (b := [35, 46]) rfl (fun _ => rfl) ?_; first | refine K.D.DW.det (b := [35, 46]) (u := []) rfl rfl rfl (fun vs hf => K.e_load Try.isAgg2 rfl rfl) ?_) | refine K.D.DW.skip (b := [35, 46]) rfl rfl (fun _ => rfl) ?_
    first | (refine K.D.DW.want (b := [35, 44, 47]) rfl (fun _ => rfl) ?_; first | refine K.D.DW.det (b := [35, 44, 47]) (u := []) rfl rfl rfl (fun vs hf => (K.e_lt rfl rfl).yes (by omega)) ?_ | refine K.D.DW.det (b := [35, 44, 47]) (u := []) rfl rfl rfl (fun vs hf => (K.e_lt rfl rfl).no (by omega)) ?_) | refine K.D.DW.skip (b := [35, 44, 47]) rfl rfl (fun _ => rfl) ?_
    first | (refine K.D.DW.want (b := [21, 35, 48]) rfl (fun _ => rfl) ?_; first | refine K.D.DW.det (b := [21, 35, 48]) (u := []) rfl rfl rfl (fun vs hf => K.e_pick_t rfl rfl) ?_ | refine K.D.DW.det (b := [21, 35, 48]) (u := []) rfl rfl rfl (fun vs hf => K.e_pick_f rfl rfl) ?_) | refine K.D.DW.skip (b := [21, 35, 48]) rfl rfl (fun _ => rfl) ?_
    first | (refine K.D.DW.want (b := [7, 21, 49]) rfl (fun _ => rfl) ?_; first | refine K.D.DW.det (b := [7, 21, 49]) (u := []) rfl rfl rfl (fun vs hf => K.e_pick_t rfl rfl) ?_ | refine K.D.DW.det (b := [7, 21, 49]) (u := []) rfl rfl rfl (fun vs hf => K.e_pick_f rfl rfl) ?_) | refine K.D.DW.skip (b := [7, 21, 49]) rfl rfl (fun _ => rfl) ?_
    first | refine K.D.DW.det (b := [7, 50]) (u := []) rfl rfl rfl (fun vs hf => K.e_pick_t rfl rfl) ?_ | refine K.D.DW.det (b := [7, 50]) (u := []) rfl rfl rfl (fun vs hf => K.e_pick_f rfl rfl) ?_
    refine K.D.DW.fin (fun vs hf => ?_)
    refine K.GL.keep [0, 3, 4, 5, 6, 12, 13, 14, 15, 16, 17, 18, 19, 20, 21, 22, 23, 24, 25, 26, 27, 28, 29, 30, 31, 32, 33, 34, 35, 36, 37, 38, 39, 40, 41, 42, 43, 44, 45, 46, 47, 48, 49, 50, 51, 52, 53, 54, 55, 56, 57, 58, 59, 60, 61, 62, 63, 64, 65, 66, 67, 68, 69, 70, 71, 72, 73, 74, 75, 76, 77, 78, 79, 80, 81, 82, 83, 84, 85, 86, 87, 88] rfl ?_
    refine K.D.GL.res0 rfl ?_
    clear hf
    try clear vs
    refine K.GL.nil ?_
    refine K.GQ.go ?_
    refine K.GC.condB rfl (fun h1 => ?_) (fun h1 => ?_)
    · first
      | exact absurd h1 (by decide)
      | try replace h1 := of_decide_eq_true h1
        refine K.GC.skip ?_
        refine K.GQ.go ?_
        refine K.GC.block ?_
        refine K.GC.region ?_
        refine K.GL.det (K.e_move rfl) rfl ?_
        first | refine K.GL.det (K.e_add rfl rfl ⟨by omega, by omega⟩) rfl ?_ | refine K.GL.det (K.e_addw rfl rfl) rfl ?_
        refine K.GL.det (K.e_assign rfl) rfl ?_
        refine K.GL.nil ?_
        refine K.GQ.block_normal ?_
        exact K.GQ.round (kk + 1) ⟨by omega, Or.inr ⟨y, by rw [Nat.add_sub_cancel]; exact hy2, by first | exact Or.inl (by assumption) | exact Or.inr ⟨by assumption, by assumption⟩⟩⟩ (by omega) (by (repeat refine ⟨rfl, ?_⟩); exact trivial) (K.Sub.refl _)
    · first
      | exact absurd h1 (by decide)
      | try replace h1 := of_decide_eq_false h1
        refine K.GC.exit ?_
        refine K.GQ.then_exit ?_
        refine K.GQ.then_exit ?_
        refine K.GQ.block_hit ?_
        refine K.GQ.go ?_
        refine K.GC.seq ?_
        refine K.GC.capT g11.a (fun hcap => ?_)
        have htl : (g11.l.take kk).length = kk := by rw [List.length_take]; omega
        have hdl : (g11.l.drop kk).length = g11.l.length - kk := List.length_drop
        refine K.D.GC.drawn0 20 [[], [], [], [2], [2, 3], [2, 3, 4], [], [2, 3, 4, 5, 6], [1, 2, 3, 4, 5, 6, 7], [], [1, 2, 3, 4, 5, 6, 7, 8, 9], [1, 2, 3, 4, 5, 6, 7, 8, 9, 10], [1, 2, 3, 4, 5, 6, 7, 8, 9, 10, 11], [], [13], [13, 14], [13, 14, 15], [], [13, 14, 15, 16, 17], [1, 2, 3, 4, 5, 6, 7, 8, 9, 10, 11, 12, 13, 14, 15, 16, 17, 18], [0, 1, 2, 3, 4, 5, 6, 7, 8, 9, 10, 11, 12, 13, 14, 15, 16, 17, 18, 19], [0, 1, 2, 3, 4, 5, 6, 7, 8, 9, 10, 11, 12, 13, 14, 15, 16, 17, 18, 19, 20], [0, 1, 2, 3, 4, 5, 6, 7, 8, 9, 10, 11, 12, 13, 14, 15, 16, 17, 18, 19, 20, 21]] [[], [], [], [2], [3], [4], [], [5, 6], [1, 7], [], [9], [10], [8, 10, 11], [], [13], [14], [15], [], [16, 17], [10, 12, 18]] [[], [], [], [], [], [], [], [], [1], [], [], [], [8, 11], [], [], [], [], [], [], [12]] [[], [], [], [], [], [], [], [], [1], [], [], [], [8], [], [], [], [], [], [], [12]] [10, 19] [0, 3, 4, 5, 6, 86, 87, 88] (by kernel_rfl) (by kernel_rfl) (by kernel_rfl) rfl ?_
        refine K.D.DW.det (b := []) (u := []) rfl rfl rfl (fun vs hf => K.e_move rfl) ?_
        refine K.D.DW.ev0 (b := []) (u := []) (a := []) rfl rfl rfl (fun vs hf => show K.D.EvM _ _ _ _ (_) [] _ _ _ _ _ from K.D.em_build encOE [] mk53 rfl rfl rfl rfl) ?_
        refine K.D.DW.det (b := []) (u := []) rfl rfl rfl (fun vs hf => K.e_move rfl) ?_
        refine K.D.DW.det (b := [2]) (u := []) rfl rfl rfl (fun vs hf => K.e_nilCheck rfl) ?_
        first | refine K.D.DW.det (b := [3]) (u := []) rfl rfl rfl (fun vs hf => K.e_fa fo68_0 rfl) ?_ | refine K.D.DW.det (b := [3]) (u := []) rfl rfl rfl (fun vs hf => K.e_fieldAddr fo68_0 rfl) ?_
        refine K.D.DW.det (b := [4]) (u := []) rfl rfl rfl (fun vs hf => K.e_load Try.isAgg53 rfl rfl) ?_
        refine K.D.DW.det (b := []) (u := []) rfl rfl rfl (fun vs hf => K.e_move rfl) ?_
        refine K.D.DW.ev0 (b := [5, 6]) (u := []) (a := []) rfl rfl rfl (fun vs hf => show K.D.EvM _ _ _ _ (_) [] _ _ _ _ _ from K.D.em_partH (j := kk) sl53 rfl rfl rfl rfl (by omega) (by omega)) ?_
        refine K.D.DW.ev0 (b := [1, 7]) (u := [1]) (a := [1]) rfl rfl rfl (fun vs ⟨hf67, ⟨hf73, hg73⟩, _⟩ => show K.D.EvM _ _ _ _ (_ :: _) [_] _ _ _ _ _ from K.D.em_append mk53 rfl rfl rfl rfl rfl (by first | omega | (simp only [List.length_cons, List.length_nil, List.length_append]; omega)) (by first | omega | (simp only [List.length_cons, List.length_nil, List.length_append]; omega))) ?_
        first | refine K.D.DW.det (b := []) (u := []) rfl rfl rfl (fun vs hf => K.e_ldA Try.isAgg33 Try.sizeOf33 rfl rfl (by assumption)) ?_ | refine K.D.DW.det (b := []) (u := []) rfl rfl rfl (fun vs hf => K.e_ldAF Try.isAgg33 Try.sizeOf33 rfl rfl (by assumption) rfl) ?_ | refine K.D.DW.det (b := []) (u := []) rfl rfl rfl (fun vs hf => K.e_loads Try.isAgg33 Try.sizeOf33 rfl rfl) ?_
        refine K.D.DW.ev0 (b := [9]) (u := []) (a := []) rfl rfl rfl (fun vs hf => show K.D.EvM _ _ _ _ (_) [] _ _ _ _ _ from em_rown_con (q := q) Try.call42 rfl hq9) ?_
        refine K.D.DW.ev (b := [10]) (u := []) (a := []) rfl rfl rfl (fun vs g => .slice (g 0).1 ([⟨q.x, (vs 10 0).1, (vs 10 0).2⟩] : List OE).length (g 0).2) (fun _ _ => True) (fun vs g => trow (g 0).1 (g 0).2 33 encOE [⟨q.x, (vs 10 0).1, (vs 10 0).2⟩]) (fun vs ⟨hf76, _⟩ => show K.D.EvM _ _ _ _ (_) [] _ _ _ _ _ from K.D.em_build encOE [⟨q.x, (vs 10 0).1, (vs 10 0).2⟩] mk53 rfl rfl rfl rfl) ?_
        refine K.D.DW.ev (b := [8, 10, 11]) (u := [8, 11]) (a := [8]) rfl rfl rfl (fun vs g => .slice (g 0).1 ((([] : List OE) ++ g11.l.take kk) ++ ([⟨q.x, (vs 10 0).1, (vs 10 0).2⟩] : List OE)).length (g 0).2) (fun _ _ => True) (fun vs g => trow (g 0).1 (g 0).2 33 encOE ((([] : List OE) ++ g11.l.take kk) ++ ([⟨q.x, (vs 10 0).1, (vs 10 0).2⟩] : List OE))) (fun vs ⟨hf74, hf76, hf77, _⟩ => show K.D.EvM _ _ _ _ (_ :: _ :: _) [_] _ _ _ _ _ from K.D.em_append (l := (([] : List OE) ++ g11.l.take kk)) (m := ([⟨q.x, (vs 10 0).1, (vs 10 0).2⟩] : List OE)) mk53 rfl rfl rfl rfl rfl (by first | omega | (simp only [List.length_cons, List.length_nil, List.length_append]; omega)) (by first | omega | (simp only [List.length_cons, List.length_nil, List.length_append]; omega))) ?_
        refine K.D.DW.det (b := []) (u := []) rfl rfl rfl (fun vs hf => K.e_move rfl) ?_
        refine K.D.DW.det (b := [13]) (u := []) rfl rfl rfl (fun vs hf => K.e_nilCheck rfl) ?_
        first | refine K.D.DW.det (b := [14]) (u := []) rfl rfl rfl (fun vs hf => K.e_fa fo68_0 rfl) ?_ | refine K.D.DW.det (b := [14]) (u := []) rfl rfl rfl (fun vs hf => K.e_fieldAddr fo68_0 rfl) ?_
        refine K.D.DW.det (b := [15]) (u := []) rfl rfl rfl (fun vs hf => K.e_load Try.isAgg53 rfl rfl) ?_
        refine K.D.DW.det (b := []) (u := []) rfl rfl rfl (fun vs hf => K.e_move rfl) ?_
        refine K.D.DW.ev0 (b := [16, 17]) (u := []) (a := []) rfl rfl rfl (fun vs hf => show K.D.EvM _ _ _ _ (_) [] _ _ _ _ _ from K.D.em_partL (j := kk) sl53 rfl rfl rfl rfl (by omega) (by omega)) ?_
        refine K.D.DW.ev (b := [10, 12, 18]) (u := [12]) (a := [12]) rfl rfl rfl (fun vs g => .slice (g 0).1 ((([] : List OE) ++ g11.l.take kk) ++ ([⟨q.x, (vs 10 0).1, (vs 10 0).2⟩] : List OE) ++ g11.l.drop kk).length (g 0).2) (fun _ _ => True) (fun vs g => trow (g 0).1 (g 0).2 33 encOE ((([] : List OE) ++ g11.l.take kk) ++ ([⟨q.x, (vs 10 0).1, (vs 10 0).2⟩] : List OE) ++ g11.l.drop kk)) (fun vs ⟨hf76, hf78, ⟨hf84, hg84⟩, _⟩ => show K.D.EvM _ _ _ _ (_ :: _) [_] _ _ _ _ _ from K.D.em_append (l := (([] : List OE) ++ g11.l.take kk) ++ ([⟨q.x, (vs 10 0).1, (vs 10 0).2⟩] : List OE)) (m := g11.l.drop kk) mk53 rfl rfl rfl rfl rfl (by first | omega | (simp only [List.length_cons, List.length_nil, List.length_append]; omega)) (by first | omega | (simp only [List.length_cons, List.length_nil, List.length_append]; omega))) ?_
        refine K.D.DW.fin (fun vs hf => ?_)
        refine K.GL.keep [4, 5, 66, 85, 86, 87, 88] rfl ?_
        refine K.D.GL.res2 rfl ?_
        try dsimp only
        rw [show K.D.rs (K.befOf [[], [], [], [2], [3], [4], [], [5, 6], [1, 7], [], [9], [10], [8, 10, 11], [], [13], [14], [15], [], [16, 17], [10, 12, 18]] 19) vs 10 = vs 10 from rfl]
        clear hf
        generalize (vs 10 0).1 = a76, (vs 10 0).2 = c76
        generalize (vs 19 0).1 = a85, (vs 19 0).2 = c85
        try clear vs
        refine K.GL.det (K.e_nilCheck rfl) rfl ?_
        first | refine K.GL.det (K.e_fa fo68_0 rfl) rfl ?_ | refine K.GL.det (K.e_fieldAddr fo68_0 rfl) rfl ?_
        refine K.GL.store rfl rfl rfl Try.sizeOf53 rfl rfl ?_
        refine K.GL.nil ?_
        refine K.GQ.go ?_
        refine K.GC.seq ?_
        refine K.GC.region ?_
        refine K.GL.det (K.e_move rfl) rfl ?_
        refine K.GL.det (K.e_assign rfl) rfl ?_
        refine K.GL.nil ?_
        refine K.GQ.go ?_
        refine K.GC.ret ?_
        refine K.GQ.ret1 Try.results24 rfl (fun w hT => ?_)
        have hh2 : g11.l.length ≤ kk ∨ ∃ y : OE, g11.l[kk]? = some y ∧ ¬ (y.x.tick < q.x.tick ∨ (y.x.tick = q.x.tick ∧ y.x.id < q.x.id)) := by first | exact Or.inl (by omega) | exact Or.inr ⟨y, hy2, by omega⟩
        simp only [ins_eq] at hT
        refine ⟨⟨g11.l.take kk ++ ⟨q.x, a76, c76⟩ :: g11.l.drop kk, a85, c85⟩, rfl, put_ok h911 hq9, ?_, ?_, rput_end (k := kk) (o := ⟨q.x, a76, c76⟩) (trow_sv (hT.sub K.sb))⟩
        · show (g11.l.take kk ++ _ :: g11.l.drop kk).length ≤ _
          rw [List.length_append, List.length_cons, htl, hdl]
          omega
        · intro ents hn hxe
          exact put_xs (o := ⟨q.x, a76, c76⟩) hn (by show g11.xs = srt (xdel q.x.id ents); rw [hx11, hxe]; exact (srt_del hn).symm) hkk hI.2 hh2
section
variable {ops : Array Oper} {Q : Exit → Act → World → Prop} {N : Nat} {U : Env} {w0 : World} {L0 L F : List Res} {ty : TypeId} {rest : List Oper} {pos : String} {after : Array Edge} {xs : List Operand} {tys : Array TypeId} {dT : Tmp}
theorem gl_rput_con {rp : Nat} {gr : RI} {q : OE}  {F1 : List Res}(hf : ∀ args w, (callFunc 24 args).run Try.prog w = .ok (.enter 24 args) w) (hx : opvs U xs = some [.pointer (some ⟨rp, 0, none⟩), .agg (OE.enc q).toArray]) [p1 : PkI L rp gr F1] (h9 : SvOk gr.l) (hz : gr.l.length ≤ 8999) (hq9 : q.x.sv.length ≤ 9000) [o0 : RdC w0 L0 [RefI rp gr] F1 q.a (K.encS) (q.x.sv)] (hd : Nat.ble (dT + 1) N = true)
    (hr : ∀ (g' : RI), SvOk g'.l → g'.l.length ≤ gr.l.length + 1 → (∀ ents : List EX, (ents.map EX.id).Nodup → gr.xs = srt ents → g'.xs = srt (xput q.x ents)) → GL Try.prog ops Q rest N ((dT, .bool (xget q.x.id gr.xs).isSome) :: U) w0 L0 (RefI rp g' :: F1)) : GL Try.prog ops Q (⟨some dT, .call ⟨.value (.func 24), xs.toArray, tys⟩, ty, pos, after, Option.none⟩ :: rest) N U w0 L0 L :=
  GL.callM (α := (RI)) (l := [RefI rp gr]) (Pv := fun y v => v = .bool (xget q.x.id gr.xs).isSome ∧ SvOk y.l ∧ y.l.length ≤ gr.l.length + 1 ∧ (∀ ents : List EX, (ents.map EX.id).Nodup → gr.xs = srt ents → y.xs = srt (xput q.x ents))) (l' := fun y => [RefI rp y]) hf hx (p1.out)
    (fun w hT => by
      have hT1 : Tr w0 L0 w ([RefI rp gr] ++ F1) := hT.sub (p1.out); have _o0 := o0.out w hT1; have hd0 := Disj.left hT1.disj; have ho0 := fun r hr => hT1.ok r (List.mem_append_left _ hr); exact (rput_con h9 hz hq9 hd0 ho0).mono fun e w' ⟨g', h1, g0, g1, g2, h2⟩ => ⟨(g'), _, h1, ⟨rfl, g0, g1, g2⟩, h2⟩) hd fun y v hv => by obtain ⟨rfl, g0, g1, g2⟩ := hv; exact hr y g0 g1 g2
end
end Go.Proofs.Ytcphpcjcbmennaa
