/-
  PART 16 OF THE PROOF OF SyncinEnds: laid together from the proof's own texts: Stp6, Stp7.
-/
import Derived.Test.YtghfoooldcbdnaaEnd12
import Derived.Test.YtghfoooldcbdnaaEnd15
set_option linter.unusedVariables false
set_option linter.unusedSimpArgs false
namespace Go.Proofs.Ytghfoooldcbdnaa
open Go.RowKit Go.Proofs.Ytghfoooldcbdnaa.SL Go.Proofs.YtghfoooldcbdnaaW.PrintWords Go.Proofs.YtghfoooldcbdnaaW.PrintLast
set_option maxHeartbeats 8000000 in
set_option maxRecDepth 100000 in
theorem step_come (g gr gt : Nat) (T : TK) (N k m : Nat)  (xr : Rec) (taken : Bool) (now : Int) (ho : T.Ok k m) (hk : k ≤ 1000000) (hm : m ≤ 1000000) (hN : N ≤ 80000000) (hx : V.RecQ xr) (i : Nat) (b : Int × List Rec) (hi : i < T.bs.length) (hb : T.bs[i]? = some b) (B : Nat) (w0 w : World) (H : List As) (HM : SL.Mod B w0 (tlk g gr gt T N :: H) w) :
    Calls Try.prog 43 #[.pointer (some ⟨gt, 0, none⟩), .agg (StE.cells ⟨2, (i : Int), xr, taken⟩).toArray, .int .i64 now] w (StepPost g gr gt T N ⟨2, (i : Int), xr, taken⟩ now B w0 H) := by
  obtain ⟨S, vB, vA, bl, Af, cf, At, ct, n, fl, tk, ⟨h1, h2, h3, h4, h5⟩, HM1⟩ := Mod.openTlk HM
  clear HM
  obtain ⟨Ab, cb, rfl, hcb, hlb, -⟩ := (HM1.pick (qrow vB 61 3 bl.length (bts 9 bl))).qSlice
  obtain ⟨Aa, ca, rfl, hca, hla, -⟩ := (HM1.pick (qrow vA 42 4 T.ans.length (anss T.ans))).qSlice
  have HM := HM1
  have HO := Aside0.mk ho
  have H1 := Aside0.mk h1
  have H2 := Aside0.mk h2
  have H3 := Aside0.mk h3
  have H4 := Aside0.mk h4
  have H5 := Aside0.mk h5
  have HX := Aside0.mk hx
  have hnb : bl.length ≤ 1000000 := by have h6 := congrArg List.length h2; rw [List.length_map] at h6; have := ho.bl; omega
  have hna : T.ans.length ≤ 1000000 := by have := ho.al; omega
  have HSS : Aside0 (S.s = 9) := ⟨by rw [show S.s = S.p.s from rfl, h1]; exact ho.ss⟩
  have HK : Aside0 (S.p.Ok k) := ⟨by rw [h1]; exact ho.p⟩
  have HHL : Aside0 ((bts 9 bl).length = bl.length * 3) := ⟨hlb⟩
  have HLA : Aside0 ((anss T.ans).length = T.ans.length * 4) := ⟨hla⟩
  have hn2 : n ≤ 80000000 := by omega
  clear HM1 h1 h2 h3 h4 h5 hx hlb hla ho
  have hil : i < bl.length := by have h6 := congrArg List.length H2.out; rw [List.length_map] at h6; omega
  obtain ⟨y, hy⟩ : ∃ y, bl[i]? = some y := ⟨_, List.getElem?_eq_getElem hil⟩
  have HYV : Aside0 ((y.n, y.l) = b) := ⟨by
    have h6 := bt_v H2.out hy
    rw [hb] at h6
    injection h6 with h6
    exact h6.symm⟩
  have HYM := Aside0.mk (List.mem_of_getElem? hy)
  obtain ⟨ad, rfl⟩ := (Mod.qReads (HM.pick (qrow (.slice Ab bl.length cb) 61 3 bl.length (bts 9 bl)))).addr (by rw [HHL.out]; omega)
  have hld : Aside0 (∀ w', SL.Mod B w0 [qrow (.slice (some ad) bl.length cb) 61 3 bl.length (bts 9 bl)] w' → Sem.run Try.prog (Instr.loadAt 61 (.pointer (some (ad.add (i * 3))))) w' = .ok (.agg (y.cells 9).toArray) w') := ⟨fun w' h => q_load (bt_len 9) h hy⟩
  have hd0 : decide ((0 : Int) ≤ (i : Int)) = true := decide_eq_true (by omega)
  have hd1 : decide (i < bl.length) = true := decide_eq_true hil
  have HBB := Aside0.mk hb
  have HIL := Aside0.mk hi
  obtain ⟨yn, yl, yA, yc⟩ := y
  simp only [Bt.cells] at hld
  clear hy hb hi
  have HBO : Aside0 (batchOk 9 b.1 b.2 = true) := ⟨HO.out.bs b (List.mem_of_getElem? HBB.out)⟩
  have HYF : Aside0 ((yA, recs yl) ∈ itB bl) := ⟨List.mem_map.2 ⟨_, HYM.out, rfl⟩⟩
  have hl23 : Aside0 (∀ w', SL.Mod B w0 [gtA gt (.pointer (some ⟨g, 0, none⟩)) (.pointer (some ⟨gr, 0, none⟩))] w' → Sem.run Try.prog (Instr.loadAt 23 (.pointer (some ⟨gt, 1, none⟩))) w' = .ok (.pointer (some ⟨gr, 0, none⟩)) w') := ⟨fun w' h => gtA_load h⟩
  have E : Aside0 (T.step ⟨2, (i : Int), xr, taken⟩ now = { T with r := (T.tell b taken).r, bs := T.bs.eraseIdx i, ans := T.ans ++ [((T.tell b taken).s, (T.tell b taken).n, (T.tell b taken).gap, (T.tell b taken).ref)] }) := ⟨by
    unfold TK.step
    dsimp only
    rw [if_neg (by omega), if_neg (by omega), if_pos ⟨by omega, by omega, by omega, by have := HIL.out; omega⟩, Int.toNat_natCast, HBB.out]
    dsimp only
    rw [if_neg (by omega), if_pos rfl]⟩
  go_enter Try.func43, Try.ntmps43
  go_wp2_with (first | ((with_reducible refine gate_dst (N := 3) rfl ?_); (with_reducible apply sl_box HM); (first | exact Ev.tmp rfl); exact rfl; clear HM; (try clear wq); intro g3 wq HM; (try simp only [Act.put, List.setIfInBounds_toArray, List.set_cons_zero, List.set_cons_succ])) | ((with_reducible refine gate_dst (N := 4) rfl ?_); (with_reducible apply sl_box HM); (first | exact Ev.tmp rfl); exact rfl; clear HM; (try clear wq); intro g4 wq HM; (try simp only [Act.put, List.setIfInBounds_toArray, List.set_cons_zero, List.set_cons_succ])))
  refine wp_drawnS HM [] [(0, 1), (1, 0), (2, 1), (3, 1), (4, 1), (5, 0), (6, 1), (7, 1), (8, 1), (9, 1), (10, 0), (11, 1), (12, 1), (13, 1), (14, 1), (15, 0), (16, 0), (17, 1), (18, 1), (19, 0), (20, 1), (21, 1), (22, 1), (23, 1)] (by kernel_rfl) (by kernel_rfl) (by kernel_rfl) (by kernel_rfl) (fun _ _ d _ _ h => by cases d <;> exact h) ?_; clear HM; (try clear wq); intro wq HM
  repeat (first | ((with_reducible apply t_move); exact rfl; exact rfl; (first | exact Ev.tmp rfl); (try simp only [Act.put, List.setIfInBounds_toArray, List.set_cons_zero, List.set_cons_succ])) | ((with_reducible apply t_assign); exact rfl; exact rfl; (first | exact Ev.tmp rfl); (try simp only [Act.put, List.setIfInBounds_toArray, List.set_cons_zero, List.set_cons_succ])) | ((with_reducible apply t_load HM); exact rfl; exact rfl; exact rfl; infer_instance; infer_instance; infer_instance; (try simp only [Act.put, List.setIfInBounds_toArray, List.set_cons_zero, List.set_cons_succ])) | ((with_reducible apply t_pure); exact rfl; exact rfl; (focus (intro wv; go_simp; (try (go_ints; (try go_simp))); (first | rfl))); (try simp only [Act.put, List.setIfInBounds_toArray, List.set_cons_zero, List.set_cons_succ])))
  refine t_nil ?_
  go_wp2_with (first | ((with_reducible refine gate_dst (N := 217) rfl ?_); (with_reducible apply sl_append_lit HM); (first | exact Ev.const); infer_instance; (first | exact Ev.const); infer_instance; infer_instance; exact rfl; infer_instance; (first | (simp only [List.length_append, List.length_cons, List.length_nil] at *; omega)); clear HM; (try clear wq); intro v217 wq HM; (try simp only [Act.put, List.setIfInBounds_toArray, List.set_cons_zero, List.set_cons_succ]); haveI := HM.rowOne v217))
  refine wp_drawnS HM [] [(0, 1), (1, 0), (2, 1), (3, 1), (4, 1), (5, 0), (6, 1), (7, 1), (8, 1), (9, 1), (10, 0), (11, 1), (12, 1), (13, 1), (14, 1), (15, 0), (16, 0), (17, 1), (18, 1), (19, 0), (20, 1), (21, 1), (22, 1), (23, 1)] (by kernel_rfl) (by kernel_rfl) (by kernel_rfl) (by kernel_rfl) (fun _ _ d _ _ h => by cases d <;> exact h) ?_; clear HM; (try clear wq); intro wq HM
  repeat (first | ((with_reducible apply t_move); exact rfl; exact rfl; (first | exact Ev.tmp rfl); (try simp only [Act.put, List.setIfInBounds_toArray, List.set_cons_zero, List.set_cons_succ])) | ((with_reducible apply t_assign); exact rfl; exact rfl; (first | exact Ev.tmp rfl); (try simp only [Act.put, List.setIfInBounds_toArray, List.set_cons_zero, List.set_cons_succ])) | ((with_reducible apply t_load HM); exact rfl; exact rfl; exact rfl; infer_instance; infer_instance; infer_instance; (try simp only [Act.put, List.setIfInBounds_toArray, List.set_cons_zero, List.set_cons_succ])) | ((with_reducible apply t_skip); exact rfl; exact rfl; (try simp only [Act.put, List.setIfInBounds_toArray, List.set_cons_zero, List.set_cons_succ])) | ((with_reducible apply t_skip0 HM); exact rfl; exact rfl; infer_instance; (try simp only [Act.put, List.setIfInBounds_toArray, List.set_cons_zero, List.set_cons_succ])) | ((with_reducible apply t_pure); exact rfl; exact rfl; (focus (intro wv; go_simp; (try (go_ints; (try go_simp))); (first | rfl))); (try simp only [Act.put, List.setIfInBounds_toArray, List.set_cons_zero, List.set_cons_succ])))
  refine t_nil ?_
  go_wp2_with (first | ((with_reducible apply sl_want); exact rfl) | ((with_reducible apply sl_load HM); exact rfl; infer_instance; infer_instance; (try simp only [Act.put, List.setIfInBounds_toArray, List.set_cons_zero, List.set_cons_succ])))
  refine wp_drawnM HM [cells g3 [.pointer (some ⟨gt, 0, none⟩)] 86, cells g4 (StE.cells ⟨2, (i : Int), xr, taken⟩) 92, cells gt [.pointer (some ⟨g, 0, none⟩), .pointer (some ⟨gr, 0, none⟩), .slice (some ad) bl.length cb, .slice Aa T.ans.length ca, .slice Af n cf, .slice At n ct] 90, qrow (.slice (some ad) bl.length cb) 61 3 bl.length (bts 9 bl)] [] [(0, 0), (1, 1), (2, 1), (3, 0), (4, 1), (5, 0), (6, 1), (7, 0), (8, 2), (9, 2)] (by kernel_rfl) (by kernel_rfl) (by kernel_rfl) (by kernel_rfl) (fun _ _ d _ _ h => by cases d <;> exact h) ?_; clear HM; (try clear wq); intro wq HM
  repeat (first | ((with_reducible apply t_load HM); exact rfl; exact rfl; exact rfl; infer_instance; infer_instance; infer_instance; (try simp only [Act.put, List.setIfInBounds_toArray, List.set_cons_zero, List.set_cons_succ])) | ((with_reducible apply t_loadH HM); exact rfl; exact rfl; exact rfl; assumption; infer_instance; infer_instance; (try simp only [Act.put, List.setIfInBounds_toArray, List.set_cons_zero, List.set_cons_succ])) | ((with_reducible apply t_pure); exact rfl; exact rfl; (focus (intro wv; go_simp; (try (go_ints; (try go_simp))); (first | rfl))); (try simp only [Act.put, List.setIfInBounds_toArray, List.set_cons_zero, List.set_cons_succ])) | ((with_reducible apply t_eff); exact rfl; exact rfl; intro K hK; (with_reducible apply ow_alloc HM); infer_instance; clear HM; (try clear wq); intro g8 wq HM; refine hK _ _ _ HM inferInstance ?_; clear hK K; (try simp only [Act.put, List.setIfInBounds_toArray, List.set_cons_zero, List.set_cons_succ])) | ((with_reducible apply t_eff); exact rfl; exact rfl; intro K hK; (with_reducible apply ow_store HM); exact rfl; (first | exact Ev.tmp rfl); infer_instance; infer_instance; infer_instance; clear HM; (try clear wq); intro  wq HM; refine hK _ _ _ HM inferInstance ?_; clear hK K; (try simp only [Act.put, List.setIfInBounds_toArray, List.set_cons_zero, List.set_cons_succ])))
  refine t_nil ?_
  go_wp2_with (first | ((with_reducible refine gate_dst (N := 217) rfl ?_); (with_reducible apply sl_append_lit HM); (first | exact Ev.const); infer_instance; (first | exact Ev.const); infer_instance; infer_instance; exact rfl; infer_instance; (first | (simp only [List.length_append, List.length_cons, List.length_nil] at *; omega)); clear HM; (try clear wq); intro v217 wq HM; (try simp only [Act.put, List.setIfInBounds_toArray, List.set_cons_zero, List.set_cons_succ]); haveI := HM.rowOne v217))
  refine wp_drawnM HM [cells g3 [.pointer (some ⟨gt, 0, none⟩)] 86, cells g4 (StE.cells ⟨2, (i : Int), xr, taken⟩) 92, cells gt [.pointer (some ⟨g, 0, none⟩), .pointer (some ⟨gr, 0, none⟩), .slice (some ad) bl.length cb, .slice Aa T.ans.length ca, .slice Af n cf, .slice At n ct] 90] [21] [(0, 0), (1, 0), (2, 1), (3, 1), (4, 0), (5, 1), (6, 0), (7, 1), (8, 0), (9, 1), (10, 0), (11, 1), (12, 1), (13, 0), (14, 1), (15, 0), (16, 1), (17, 1), (18, 2), (19, 1), (20, 1), (21, 3)] (by kernel_rfl) (by kernel_rfl) (by kernel_rfl) (by kernel_rfl) (fun _ _ d _ _ h => by cases d <;> exact h) ?_; clear HM; (try clear wq); intro wq HM
  repeat (first | ((with_reducible refine t_at (n := 17) rfl ?_); (with_reducible apply t_subL (sz := 3) ((i + 1))); exact rfl; exact rfl; (first | exact Ev.tmp rfl); (first | exact Ev.tmp rfl); exact Try.underlying71; (focus kernel_rfl); omega; (try simp only [Act.put, List.setIfInBounds_toArray, List.set_cons_zero, List.set_cons_succ])) | ((with_reducible refine t_at (n := 18) rfl ?_); (with_reducible apply t_eff); exact rfl; exact rfl; intro K hK; have HMc : SL.Mod B w0 (qrow (.slice (some ad) bl.length cb) 61 3 bl.length (bts 9 bl) :: _) _ := HM.pick (qrow (.slice (some ad) bl.length cb) 61 3 bl.length (bts 9 bl)); (with_reducible apply ow_cut HMc hil); (first | exact Ev.tmp rfl); (first | exact Ev.tmp rfl); infer_instance; infer_instance; omega; clear HM HMc; (try clear wq); intro v139 wq HM; haveI := HM.qOne; refine hK _ _ _ HM inferInstance ?_; clear hK K; (try simp only [Act.put, List.setIfInBounds_toArray, List.set_cons_zero, List.set_cons_succ])) | ((with_reducible refine t_at (n := 21) rfl ?_); ((with_reducible apply t_last); exact rfl; exact rfl; intro K hK; (with_reducible apply ow_store HM); exact rfl; (first | exact Ev.tmp rfl); infer_instance; infer_instance; infer_instance; clear HM; (try clear wq); intro  wq HM; refine hK _ _ ?_; clear hK K; (try simp only [Act.put, List.setIfInBounds_toArray, List.set_cons_zero, List.set_cons_succ]))) | ((with_reducible apply t_load HM); exact rfl; exact rfl; exact rfl; infer_instance; infer_instance; infer_instance; (try simp only [Act.put, List.setIfInBounds_toArray, List.set_cons_zero, List.set_cons_succ])) | ((with_reducible apply t_pure); exact rfl; exact rfl; (focus (intro wv; go_simp; (try (go_ints; (try go_simp))); (first | rfl | (rw [if_pos (by omega)]; done)))); (try simp only [Act.put, List.setIfInBounds_toArray, List.set_cons_zero, List.set_cons_succ])))
  refine t_nil ?_
  go_wp2_with (first | ((with_reducible apply sl_load HM); exact rfl; infer_instance; infer_instance; (try simp only [Act.put, List.setIfInBounds_toArray, List.set_cons_zero, List.set_cons_succ])))
  have HM3 : SL.Mod B w0 (tokL gt (.pointer (some ⟨g, 0, none⟩)) (.pointer (some ⟨gr, 0, none⟩)) v139 (.slice Aa T.ans.length ca) Af cf At ct n fl tk (cells g8 [.int .i64 9, .int .i64 yn, .slice yA yl.length yc] 61 :: cells g3 [.pointer (some ⟨gt, 0, none⟩)] 86 :: cells g4 (StE.cells ⟨2, (i : Int), xr, taken⟩) 92 :: cells gr T.r.cells 127 :: snd g S :: qrow v139 61 3 (bl.length - 1) ((bts 9 bl).take (i * 3) ++ (bts 9 bl).drop ((i + 1) * 3)) :: qrow (.slice Aa T.ans.length ca) 42 4 T.ans.length (anss T.ans) :: frz (itB bl) :: H)) _ := HM.sub
  have HM4 := Mod.closeTok HM3 (Nat.le_refl n) H4.out H5.out
  clear HM HM3
  have HM := HM4
  clear HM4
  obtain ⟨o, hoo⟩ : ∃ o, T.r.take 9 b.1 b.2 (bitsUp (fun _ => taken) b.2.length) = o := ⟨_, rfl⟩
  have HOO := Aside0.mk hoo
  clear hoo
  refine wp_forkM HM [cells g3 [.pointer (some ⟨gt, 0, none⟩)] 86, cells g8 [.int .i64 9, .int .i64 yn, .slice yA yl.length yc] 61, gtA gt (.pointer (some ⟨g, 0, none⟩)) (.pointer (some ⟨gr, 0, none⟩))] [] (by kernel_rfl) ?_; intro wq HM
  refine pre_go [(0, 0), (1, 1), (2, 1), (3, 0), (4, 0), (5, 1)] 7 #[true, true, true, true, true, true, false, false, false, false, false, false, false] (by kernel_rfl) (fun _ _ d _ _ h => by cases d <;> exact h) (by kernel_rfl) (by kernel_rfl) ?_
  repeat (first | ((with_reducible apply t_load HM); exact rfl; exact rfl; exact rfl; infer_instance; infer_instance; infer_instance; (try simp only [Act.put, List.setIfInBounds_toArray, List.set_cons_zero, List.set_cons_succ])) | ((with_reducible apply t_loadH HM); exact rfl; exact rfl; exact rfl; assumption; infer_instance; infer_instance; (try simp only [Act.put, List.setIfInBounds_toArray, List.set_cons_zero, List.set_cons_succ])) | ((with_reducible apply t_pure); exact rfl; exact rfl; (focus (intro wv; go_simp; (try (go_ints; (try go_simp))); (first | rfl))); (try simp only [Act.put, List.setIfInBounds_toArray, List.set_cons_zero, List.set_cons_succ])))
  refine t_nil ?_
  refine fork_go (i := 6) (j := 10) (by kernel_rfl) rfl rfl rfl rfl (fun K hK => ?_) (fun K hK => ?_)
  · go_simp; go_at_call 28; have HMq := modPick4 HM (cells gr T.r.cells 127) (cells g3 [.pointer (some ⟨gt, 0, none⟩)] 86) (cells g4 (StE.cells ⟨2, (i : Int), xr, taken⟩) 92) (tokA gt (.pointer (some ⟨g, 0, none⟩)) (.pointer (some ⟨gr, 0, none⟩)) v139 (.slice Aa T.ans.length ca) n); refine (stepTake g3 g4 gt gr _ _ _ _ ⟨2, (i : Int), xr, taken⟩ n (by omega) T.r HO.out.r b HBO.out yn yl yA yc HYV.out o HOO.out B w0 _ _ (fun w h => frz_reads (h.pick (frz (itB bl))) HYF.out) HMq).mono ?_; clear HMq; rintro e wq ⟨rfl, HM1⟩; clear HM; have HM := HM1; clear HM1; refine hK _ _ _ HM inferInstance ?_; clear hK K; (try simp only [Act.put, List.setIfInBounds_toArray, List.set_cons_zero, List.set_cons_succ])
    refine lin_go [(7, 1), (8, 1), (9, 1), (10, 2), (11, 2), (12, 1)] (by kernel_rfl) (fun _ _ d _ _ h => by cases d <;> exact h) (by kernel_rfl) (by kernel_rfl) ?_
    repeat (first | ((with_reducible refine t_at (n := 10) rfl ?_); (with_reducible apply t_eff); exact rfl; exact rfl; intro K hK; (with_reducible apply ow_alloc HM); infer_instance; clear HM; (try clear wq); intro g9 wq HM; refine hK _ _ _ HM inferInstance ?_; clear hK K; (try simp only [Act.put, List.setIfInBounds_toArray, List.set_cons_zero, List.set_cons_succ])) | ((with_reducible apply t_move); exact rfl; exact rfl; (first | exact Ev.tmp rfl); (try simp only [Act.put, List.setIfInBounds_toArray, List.set_cons_zero, List.set_cons_succ])) | ((with_reducible apply t_assign); exact rfl; exact rfl; (first | exact Ev.tmp rfl); (try simp only [Act.put, List.setIfInBounds_toArray, List.set_cons_zero, List.set_cons_succ])) | ((with_reducible apply t_pure); exact rfl; exact rfl; (focus (intro wv; go_simp; (try (go_ints; (try go_simp))); (first | rfl))); (try simp only [Act.put, List.setIfInBounds_toArray, List.set_cons_zero, List.set_cons_succ])) | ((with_reducible apply t_eff); exact rfl; exact rfl; intro K hK; (with_reducible apply ow_store HM); exact rfl; (first | exact Ev.tmp rfl); infer_instance; infer_instance; infer_instance; clear HM; (try clear wq); intro  wq HM; refine hK _ _ _ HM inferInstance ?_; clear hK K; (try simp only [Act.put, List.setIfInBounds_toArray, List.set_cons_zero, List.set_cons_succ])))
    refine t_nil ?_
    go_wp2_with (first | ((with_reducible refine gate_dst (N := 217) rfl ?_); (with_reducible apply sl_append_lit HM); (first | exact Ev.const); infer_instance; (first | exact Ev.const); infer_instance; infer_instance; exact rfl; infer_instance; (first | (simp only [List.length_append, List.length_cons, List.length_nil] at *; omega)); clear HM; (try clear wq); intro v217 wq HM; (try simp only [Act.put, List.setIfInBounds_toArray, List.set_cons_zero, List.set_cons_succ]); haveI := HM.rowOne v217))
    obtain ⟨Af2, cf2, At2, ct2, n2, fl2, tk2, ⟨q1, q2, q3⟩, HM1⟩ := Mod.openTok (HM.pick (tokA gt (.pointer (some ⟨g, 0, none⟩)) (.pointer (some ⟨gr, 0, none⟩)) v139 (.slice Aa T.ans.length ca) (n + 64)))
    have Q1 := Aside0.mk q1
    have Q2 := Aside0.mk q2
    have Q3 := Aside0.mk q3
    clear q1 q2 q3 HM
    have HM := HM1
    clear HM1
    obtain ⟨A139, c139, rfl, -, -, -⟩ := (HM.pick (qrow v139 61 3 (bl.length - 1) ((bts 9 bl).take (i * 3) ++ (bts 9 bl).drop ((i + 1) * 3)))).qSlice
    refine wp_drawnM HM [cells g3 [.pointer (some ⟨gt, 0, none⟩)] 86, cells g9 [.int .i64 o.s, .int .i64 o.n, .bool o.gap, .int .u64 o.ref] 42, cells gt [.pointer (some ⟨g, 0, none⟩), .pointer (some ⟨gr, 0, none⟩), (.slice A139 (bl.length - 1) c139), .slice Aa T.ans.length ca, .slice Af2 n2 cf2, .slice At2 n2 ct2] 90] [10] [(0, 0), (1, 0), (2, 1), (3, 1), (4, 0), (5, 0), (6, 2), (7, 2), (8, 1), (9, 1), (10, 3)] (by kernel_rfl) (by kernel_rfl) (by kernel_rfl) (by kernel_rfl) (fun _ _ d _ _ h => by cases d <;> exact h) ?_; clear HM; (try clear wq); intro wq HM
    repeat (first | ((with_reducible refine t_at (n := 7) rfl ?_); (with_reducible apply t_eff); exact rfl; exact rfl; intro K hK; have HMc : SL.Mod B w0 (qrow (.slice Aa T.ans.length ca) 42 4 T.ans.length (anss T.ans) :: _) _ := HM.pick (qrow (.slice Aa T.ans.length ca) 42 4 T.ans.length (anss T.ans)); have hnw : Reads _ (some ⟨g161, 0, none⟩) _ := (fun j u hj => ⟨_, rfl, cells_at (HM.has g161) j u hj⟩); (with_reducible apply ow_qappend HMc); (first | exact Ev.tmp rfl); (first | exact Ev.tmp rfl); infer_instance; exact hnw; rfl; infer_instance; infer_instance; omega; clear HM HMc hnw; (try clear wq); intro v162 wq HM; haveI := HM.qOne; refine hK _ _ _ HM inferInstance ?_; clear hK K; (try simp only [Act.put, List.setIfInBounds_toArray, List.set_cons_zero, List.set_cons_succ])) | ((with_reducible refine t_at (n := 10) rfl ?_); ((with_reducible apply t_last); exact rfl; exact rfl; intro K hK; (with_reducible apply ow_store HM); exact rfl; (first | exact Ev.tmp rfl); infer_instance; infer_instance; infer_instance; clear HM; (try clear wq); intro  wq HM; refine hK _ _ ?_; clear hK K; (try simp only [Act.put, List.setIfInBounds_toArray, List.set_cons_zero, List.set_cons_succ]))) | ((with_reducible apply t_load HM); exact rfl; exact rfl; exact rfl; infer_instance; infer_instance; infer_instance; (try simp only [Act.put, List.setIfInBounds_toArray, List.set_cons_zero, List.set_cons_succ])) | ((with_reducible apply t_pure); exact rfl; exact rfl; (focus (intro wv; go_simp; (try (go_ints; (try go_simp))); (first | rfl))); (try simp only [Act.put, List.setIfInBounds_toArray, List.set_cons_zero, List.set_cons_succ])) | ((with_reducible apply t_eff); exact rfl; exact rfl; intro K hK; (with_reducible apply ow_lit HM); (focus (go_simp; (try rfl); done)); clear HM; (try clear wq); intro g161 wq HM; refine hK _ _ _ HM inferInstance ?_; clear hK K; (try simp only [Act.put, List.setIfInBounds_toArray, List.set_cons_zero, List.set_cons_succ])))
    refine t_nil ?_
    go_wp2_with (first | ((with_reducible refine gate_dst (N := 217) rfl ?_); (with_reducible apply sl_append_lit HM); (first | exact Ev.const); infer_instance; (first | exact Ev.const); infer_instance; infer_instance; exact rfl; infer_instance; (first | (simp only [List.length_append, List.length_cons, List.length_nil] at *; omega)); clear HM; (try clear wq); intro v217 wq HM; (try simp only [Act.put, List.setIfInBounds_toArray, List.set_cons_zero, List.set_cons_succ]); haveI := HM.rowOne v217))
    refine bodyPost_end (results_none rfl _ _ _) rfl (show StepPost g gr gt T N _ now B w0 H _ _ from ⟨rfl, ?_⟩)
    rw [E.out]
    have e1 : (bts 9 bl).take (i * 3) ++ (bts 9 bl).drop ((i + 1) * 3) = bts 9 (bl.eraseIdx i) := (flat_erase (bt_len 9) bl i hil).symm
    have e2 : bl.length - 1 = (bl.eraseIdx i).length := by rw [List.length_eraseIdx, if_pos hil]
    have e3 : anss T.ans ++ [.int .i64 o.s, .int .i64 o.n, .bool o.gap, .int .u64 o.ref] = anss (T.ans ++ [(o.s, o.n, o.gap, o.ref)]) := by simp [anss, List.flatMap_append]
    have e4 : T.ans.length + 1 = (T.ans ++ [(o.s, o.n, o.gap, o.ref)]).length := by simp
    rw [e1, e2, e3, e4] at HM
    have HM2 := (HM.pick (frz (itB bl))).frzSub (L' := itB (bl.eraseIdx i)) (fun p hp => by unfold itB at hp ⊢; obtain ⟨z, hz, rfl⟩ := List.mem_map.1 hp; exact List.mem_map.2 ⟨z, (List.eraseIdx_sublist bl i).subset hz, rfl⟩)
    have HM3 : SL.Mod B w0 (tlkL g gr gt S o.r (.slice A139 (bl.eraseIdx i).length c139) v162 (bl.eraseIdx i) (T.ans ++ [(o.s, o.n, o.gap, o.ref)]) Af2 cf2 At2 ct2 n2 fl2 tk2 H) _ := HM2.sub
    exact Mod.closeTlk HM3 H1.out (by rw [map_erase, H2.out]) (by have := H3.out; have := Q1.out; omega) Q2.out Q3.out (by rw [show T.tell b taken = o from HOO.out]) (by rw [show T.tell b taken = o from HOO.out])
  · (with_reducible apply ow_alloc HM); infer_instance; clear HM; (try clear wq); intro g9 wq HM; refine hK _ _ _ HM inferInstance ?_; clear hK K; (try simp only [Act.put, List.setIfInBounds_toArray, List.set_cons_zero, List.set_cons_succ])
    refine lin_go [(6, 2), (7, 1), (8, 1), (9, 1), (11, 2), (12, 1)] (by kernel_rfl) (fun _ _ d _ _ h => by cases d <;> exact h) (by kernel_rfl) (by kernel_rfl) ?_
    repeat (first | ((with_reducible refine t_at (n := 6) rfl ?_); (with_reducible apply t_eff); exact rfl; exact rfl; intro K hK; go_simp; go_at_call 28; have HMq := modPick4 HM (cells gr T.r.cells 127) (cells g3 [.pointer (some ⟨gt, 0, none⟩)] 86) (cells g4 (StE.cells ⟨2, (i : Int), xr, taken⟩) 92) (tokA gt (.pointer (some ⟨g, 0, none⟩)) (.pointer (some ⟨gr, 0, none⟩)) v139 (.slice Aa T.ans.length ca) n); refine (stepTake g3 g4 gt gr _ _ _ _ ⟨2, (i : Int), xr, taken⟩ n (by omega) T.r HO.out.r b HBO.out yn yl yA yc HYV.out o HOO.out B w0 _ _ (fun w h => frz_reads (h.pick (frz (itB bl))) HYF.out) HMq).mono ?_; clear HMq; rintro e wq ⟨rfl, HM1⟩; clear HM; have HM := HM1; clear HM1; refine hK _ _ _ HM inferInstance ?_; clear hK K; (try simp only [Act.put, List.setIfInBounds_toArray, List.set_cons_zero, List.set_cons_succ])) | ((with_reducible apply t_move); exact rfl; exact rfl; (first | exact Ev.tmp rfl); (try simp only [Act.put, List.setIfInBounds_toArray, List.set_cons_zero, List.set_cons_succ])) | ((with_reducible apply t_assign); exact rfl; exact rfl; (first | exact Ev.tmp rfl); (try simp only [Act.put, List.setIfInBounds_toArray, List.set_cons_zero, List.set_cons_succ])) | ((with_reducible apply t_pure); exact rfl; exact rfl; (focus (intro wv; go_simp; (try (go_ints; (try go_simp))); (first | rfl))); (try simp only [Act.put, List.setIfInBounds_toArray, List.set_cons_zero, List.set_cons_succ])) | ((with_reducible apply t_eff); exact rfl; exact rfl; intro K hK; (with_reducible apply ow_store HM); exact rfl; (first | exact Ev.tmp rfl); infer_instance; infer_instance; infer_instance; clear HM; (try clear wq); intro  wq HM; refine hK _ _ _ HM inferInstance ?_; clear hK K; (try simp only [Act.put, List.setIfInBounds_toArray, List.set_cons_zero, List.set_cons_succ])))
    refine t_nil ?_
    go_wp2_with (first | ((with_reducible refine gate_dst (N := 217) rfl ?_); (with_reducible apply sl_append_lit HM); (first | exact Ev.const); infer_instance; (first | exact Ev.const); infer_instance; infer_instance; exact rfl; infer_instance; (first | (simp only [List.length_append, List.length_cons, List.length_nil] at *; omega)); clear HM; (try clear wq); intro v217 wq HM; (try simp only [Act.put, List.setIfInBounds_toArray, List.set_cons_zero, List.set_cons_succ]); haveI := HM.rowOne v217))
    obtain ⟨Af2, cf2, At2, ct2, n2, fl2, tk2, ⟨q1, q2, q3⟩, HM1⟩ := Mod.openTok (HM.pick (tokA gt (.pointer (some ⟨g, 0, none⟩)) (.pointer (some ⟨gr, 0, none⟩)) v139 (.slice Aa T.ans.length ca) (n + 64)))
    have Q1 := Aside0.mk q1
    have Q2 := Aside0.mk q2
    have Q3 := Aside0.mk q3
    clear q1 q2 q3 HM
    have HM := HM1
    clear HM1
    obtain ⟨A139, c139, rfl, -, -, -⟩ := (HM.pick (qrow v139 61 3 (bl.length - 1) ((bts 9 bl).take (i * 3) ++ (bts 9 bl).drop ((i + 1) * 3)))).qSlice
    refine wp_drawnM HM [cells g3 [.pointer (some ⟨gt, 0, none⟩)] 86, cells g9 [.int .i64 o.s, .int .i64 o.n, .bool o.gap, .int .u64 o.ref] 42, cells gt [.pointer (some ⟨g, 0, none⟩), .pointer (some ⟨gr, 0, none⟩), (.slice A139 (bl.length - 1) c139), .slice Aa T.ans.length ca, .slice Af2 n2 cf2, .slice At2 n2 ct2] 90] [10] [(0, 0), (1, 0), (2, 1), (3, 1), (4, 0), (5, 0), (6, 2), (7, 2), (8, 1), (9, 1), (10, 3)] (by kernel_rfl) (by kernel_rfl) (by kernel_rfl) (by kernel_rfl) (fun _ _ d _ _ h => by cases d <;> exact h) ?_; clear HM; (try clear wq); intro wq HM
    repeat (first | ((with_reducible refine t_at (n := 7) rfl ?_); (with_reducible apply t_eff); exact rfl; exact rfl; intro K hK; have HMc : SL.Mod B w0 (qrow (.slice Aa T.ans.length ca) 42 4 T.ans.length (anss T.ans) :: _) _ := HM.pick (qrow (.slice Aa T.ans.length ca) 42 4 T.ans.length (anss T.ans)); have hnw : Reads _ (some ⟨g161, 0, none⟩) _ := (fun j u hj => ⟨_, rfl, cells_at (HM.has g161) j u hj⟩); (with_reducible apply ow_qappend HMc); (first | exact Ev.tmp rfl); (first | exact Ev.tmp rfl); infer_instance; exact hnw; rfl; infer_instance; infer_instance; omega; clear HM HMc hnw; (try clear wq); intro v162 wq HM; haveI := HM.qOne; refine hK _ _ _ HM inferInstance ?_; clear hK K; (try simp only [Act.put, List.setIfInBounds_toArray, List.set_cons_zero, List.set_cons_succ])) | ((with_reducible refine t_at (n := 10) rfl ?_); ((with_reducible apply t_last); exact rfl; exact rfl; intro K hK; (with_reducible apply ow_store HM); exact rfl; (first | exact Ev.tmp rfl); infer_instance; infer_instance; infer_instance; clear HM; (try clear wq); intro  wq HM; refine hK _ _ ?_; clear hK K; (try simp only [Act.put, List.setIfInBounds_toArray, List.set_cons_zero, List.set_cons_succ]))) | ((with_reducible apply t_load HM); exact rfl; exact rfl; exact rfl; infer_instance; infer_instance; infer_instance; (try simp only [Act.put, List.setIfInBounds_toArray, List.set_cons_zero, List.set_cons_succ])) | ((with_reducible apply t_pure); exact rfl; exact rfl; (focus (intro wv; go_simp; (try (go_ints; (try go_simp))); (first | rfl))); (try simp only [Act.put, List.setIfInBounds_toArray, List.set_cons_zero, List.set_cons_succ])) | ((with_reducible apply t_eff); exact rfl; exact rfl; intro K hK; (with_reducible apply ow_lit HM); (focus (go_simp; (try rfl); done)); clear HM; (try clear wq); intro g161 wq HM; refine hK _ _ _ HM inferInstance ?_; clear hK K; (try simp only [Act.put, List.setIfInBounds_toArray, List.set_cons_zero, List.set_cons_succ])))
    refine t_nil ?_
    go_wp2_with (first | ((with_reducible refine gate_dst (N := 217) rfl ?_); (with_reducible apply sl_append_lit HM); (first | exact Ev.const); infer_instance; (first | exact Ev.const); infer_instance; infer_instance; exact rfl; infer_instance; (first | (simp only [List.length_append, List.length_cons, List.length_nil] at *; omega)); clear HM; (try clear wq); intro v217 wq HM; (try simp only [Act.put, List.setIfInBounds_toArray, List.set_cons_zero, List.set_cons_succ]); haveI := HM.rowOne v217))
    refine bodyPost_end (results_none rfl _ _ _) rfl (show StepPost g gr gt T N _ now B w0 H _ _ from ⟨rfl, ?_⟩)
    rw [E.out]
    have e1 : (bts 9 bl).take (i * 3) ++ (bts 9 bl).drop ((i + 1) * 3) = bts 9 (bl.eraseIdx i) := (flat_erase (bt_len 9) bl i hil).symm
    have e2 : bl.length - 1 = (bl.eraseIdx i).length := by rw [List.length_eraseIdx, if_pos hil]
    have e3 : anss T.ans ++ [.int .i64 o.s, .int .i64 o.n, .bool o.gap, .int .u64 o.ref] = anss (T.ans ++ [(o.s, o.n, o.gap, o.ref)]) := by simp [anss, List.flatMap_append]
    have e4 : T.ans.length + 1 = (T.ans ++ [(o.s, o.n, o.gap, o.ref)]).length := by simp
    rw [e1, e2, e3, e4] at HM
    have HM2 := (HM.pick (frz (itB bl))).frzSub (L' := itB (bl.eraseIdx i)) (fun p hp => by unfold itB at hp ⊢; obtain ⟨z, hz, rfl⟩ := List.mem_map.1 hp; exact List.mem_map.2 ⟨z, (List.eraseIdx_sublist bl i).subset hz, rfl⟩)
    have HM3 : SL.Mod B w0 (tlkL g gr gt S o.r (.slice A139 (bl.eraseIdx i).length c139) v162 (bl.eraseIdx i) (T.ans ++ [(o.s, o.n, o.gap, o.ref)]) Af2 cf2 At2 ct2 n2 fl2 tk2 H) _ := HM2.sub
    exact Mod.closeTlk HM3 H1.out (by rw [map_erase, H2.out]) (by have := H3.out; have := Q1.out; omega) Q2.out Q3.out (by rw [show T.tell b taken = o from HOO.out]) (by rw [show T.tell b taken = o from HOO.out])
end Go.Proofs.Ytghfoooldcbdnaa
set_option linter.unusedVariables false
set_option linter.unusedSimpArgs false
namespace Go.Proofs.Ytghfoooldcbdnaa
open Go.RowKit Go.Proofs.Ytghfoooldcbdnaa.SL Go.Proofs.YtghfoooldcbdnaaW.PrintWords Go.Proofs.YtghfoooldcbdnaaW.PrintLast
set_option maxHeartbeats 8000000 in
set_option maxRecDepth 100000 in
theorem step_n1 (g gr gt : Nat) (T : TK) (N k m : Nat) (kind xn : Int) (xr : Rec) (taken : Bool) (now : Int) (ho : T.Ok k m) (hk : k ≤ 1000000) (hm : m ≤ 1000000) (hN : N ≤ 80000000) (hx : V.RecQ xr) (c0 : kind < 0) (B : Nat) (w0 w : World) (H : List As) (HM : SL.Mod B w0 (tlk g gr gt T N :: H) w) :
    Calls Try.prog 43 #[.pointer (some ⟨gt, 0, none⟩), .agg (StE.cells ⟨kind, xn, xr, taken⟩).toArray, .int .i64 now] w (StepPost g gr gt T N ⟨kind, xn, xr, taken⟩ now B w0 H) := by
  obtain ⟨S, vB, vA, bl, Af, cf, At, ct, n, fl, tk, ⟨h1, h2, h3, h4, h5⟩, HM1⟩ := Mod.openTlk HM
  clear HM
  obtain ⟨Ab, cb, rfl, hcb, hlb, -⟩ := (HM1.pick (qrow vB 61 3 bl.length (bts 9 bl))).qSlice
  obtain ⟨Aa, ca, rfl, hca, hla, -⟩ := (HM1.pick (qrow vA 42 4 T.ans.length (anss T.ans))).qSlice
  have HM := HM1
  have HO := Aside0.mk ho
  have H1 := Aside0.mk h1
  have H2 := Aside0.mk h2
  have H3 := Aside0.mk h3
  have H4 := Aside0.mk h4
  have H5 := Aside0.mk h5
  have HX := Aside0.mk hx
  have hnb : bl.length ≤ 1000000 := by have h6 := congrArg List.length h2; rw [List.length_map] at h6; have := ho.bl; omega
  have hna : T.ans.length ≤ 1000000 := by have := ho.al; omega
  have HSS : Aside0 (S.s = 9) := ⟨by rw [show S.s = S.p.s from rfl, h1]; exact ho.ss⟩
  have HK : Aside0 (S.p.Ok k) := ⟨by rw [h1]; exact ho.p⟩
  have HHL : Aside0 ((bts 9 bl).length = bl.length * 3) := ⟨hlb⟩
  have HLA : Aside0 ((anss T.ans).length = T.ans.length * 4) := ⟨hla⟩
  have hn2 : n ≤ 80000000 := by omega
  clear HM1 h1 h2 h3 h4 h5 hx hlb hla ho
  have e0 : (kind == 0) = false := by rw [beq_eq_false_iff_ne]; omega
  have e1 : (kind == 1) = false := by rw [beq_eq_false_iff_ne]; omega
  have f0 : decide (2 ≤ kind) = false := decide_eq_false (by omega)
  have f1 : decide (5 ≤ kind) = false := decide_eq_false (by omega)
  have E : Aside0 (T.step ⟨kind, xn, xr, taken⟩ now = T) := ⟨by
    unfold TK.step
    dsimp only
    have h6 := congrArg List.length H2.out
    rw [List.length_map] at h6
    rw [if_neg (by omega), if_neg (by omega), if_neg (by omega), if_neg (by omega)]⟩
  go_enter Try.func43, Try.ntmps43
  go_wp2_with (first | ((with_reducible refine gate_dst (N := 3) rfl ?_); (with_reducible apply sl_box HM); (first | exact Ev.tmp rfl); exact rfl; clear HM; (try clear wq); intro g3 wq HM; (try simp only [Act.put, List.setIfInBounds_toArray, List.set_cons_zero, List.set_cons_succ])) | ((with_reducible refine gate_dst (N := 4) rfl ?_); (with_reducible apply sl_box HM); (first | exact Ev.tmp rfl); exact rfl; clear HM; (try clear wq); intro g4 wq HM; (try simp only [Act.put, List.setIfInBounds_toArray, List.set_cons_zero, List.set_cons_succ])))
  refine wp_drawnS HM [] [(0, 1), (1, 0), (2, 1), (3, 1), (4, 1), (5, 0), (6, 1), (7, 1), (8, 1), (9, 1), (10, 0), (11, 1), (12, 1), (13, 1), (14, 1), (15, 0), (16, 0), (17, 1), (18, 1), (19, 0), (20, 1), (21, 1), (22, 1), (23, 1)] (by kernel_rfl) (by kernel_rfl) (by kernel_rfl) (by kernel_rfl) (fun _ _ d _ _ h => by cases d <;> exact h) ?_; clear HM; (try clear wq); intro wq HM
  repeat (first | ((with_reducible apply t_move); exact rfl; exact rfl; (first | exact Ev.tmp rfl); (try simp only [Act.put, List.setIfInBounds_toArray, List.set_cons_zero, List.set_cons_succ])) | ((with_reducible apply t_assign); exact rfl; exact rfl; (first | exact Ev.tmp rfl); (try simp only [Act.put, List.setIfInBounds_toArray, List.set_cons_zero, List.set_cons_succ])) | ((with_reducible apply t_load HM); exact rfl; exact rfl; exact rfl; infer_instance; infer_instance; infer_instance; (try simp only [Act.put, List.setIfInBounds_toArray, List.set_cons_zero, List.set_cons_succ])) | ((with_reducible apply t_skip); exact rfl; exact rfl; (try simp only [Act.put, List.setIfInBounds_toArray, List.set_cons_zero, List.set_cons_succ])) | ((with_reducible apply t_skip0 HM); exact rfl; exact rfl; infer_instance; (try simp only [Act.put, List.setIfInBounds_toArray, List.set_cons_zero, List.set_cons_succ])) | ((with_reducible apply t_pure); exact rfl; exact rfl; (focus (intro wv; go_simp; (try (go_ints; (try go_simp))); (first | rfl))); (try simp only [Act.put, List.setIfInBounds_toArray, List.set_cons_zero, List.set_cons_succ])))
  refine t_nil ?_
  go_wp2_with (first | ((with_reducible refine gate_dst (N := 217) rfl ?_); (with_reducible apply sl_append_lit HM); (first | exact Ev.const); infer_instance; (first | exact Ev.const); infer_instance; infer_instance; exact rfl; infer_instance; (first | (simp only [List.length_append, List.length_cons, List.length_nil] at *; omega)); clear HM; (try clear wq); intro v217 wq HM; (try simp only [Act.put, List.setIfInBounds_toArray, List.set_cons_zero, List.set_cons_succ]); haveI := HM.rowOne v217))
  refine wp_drawnS HM [] [(0, 1), (1, 0), (2, 1), (3, 1), (4, 1), (5, 0), (6, 1), (7, 1), (8, 1), (9, 1), (10, 0), (11, 1), (12, 1), (13, 1), (14, 1), (15, 0), (16, 0), (17, 1), (18, 1), (19, 0), (20, 1), (21, 1), (22, 1), (23, 1)] (by kernel_rfl) (by kernel_rfl) (by kernel_rfl) (by kernel_rfl) (fun _ _ d _ _ h => by cases d <;> exact h) ?_; clear HM; (try clear wq); intro wq HM
  repeat (first | ((with_reducible apply t_move); exact rfl; exact rfl; (first | exact Ev.tmp rfl); (try simp only [Act.put, List.setIfInBounds_toArray, List.set_cons_zero, List.set_cons_succ])) | ((with_reducible apply t_assign); exact rfl; exact rfl; (first | exact Ev.tmp rfl); (try simp only [Act.put, List.setIfInBounds_toArray, List.set_cons_zero, List.set_cons_succ])) | ((with_reducible apply t_load HM); exact rfl; exact rfl; exact rfl; infer_instance; infer_instance; infer_instance; (try simp only [Act.put, List.setIfInBounds_toArray, List.set_cons_zero, List.set_cons_succ])) | ((with_reducible apply t_skip); exact rfl; exact rfl; (try simp only [Act.put, List.setIfInBounds_toArray, List.set_cons_zero, List.set_cons_succ])) | ((with_reducible apply t_skip0 HM); exact rfl; exact rfl; infer_instance; (try simp only [Act.put, List.setIfInBounds_toArray, List.set_cons_zero, List.set_cons_succ])) | ((with_reducible apply t_pure); exact rfl; exact rfl; (focus (intro wv; go_simp; (try (go_ints; (try go_simp))); (first | rfl))); (try simp only [Act.put, List.setIfInBounds_toArray, List.set_cons_zero, List.set_cons_succ])))
  refine t_nil ?_
  go_wp2_with (first | ((with_reducible apply sl_load HM); exact rfl; infer_instance; infer_instance; (try simp only [Act.put, List.setIfInBounds_toArray, List.set_cons_zero, List.set_cons_succ])))
  refine bodyPost_end (results_none rfl _ _ _) rfl (show StepPost g gr gt T N _ now B w0 H _ _ from ⟨rfl, ?_⟩)
  rw [E.out]
  have HM1 : SL.Mod B w0 (tlkL g gr gt S T.r (.slice Ab bl.length cb) (.slice Aa T.ans.length ca) bl T.ans Af cf At ct n fl tk H) _ := HM.sub
  exact Mod.closeTlk HM1 H1.out H2.out (by have := H3.out; omega) H4.out H5.out rfl rfl
set_option maxHeartbeats 8000000 in
set_option maxRecDepth 100000 in
theorem step_n2 (g gr gt : Nat) (T : TK) (N k m : Nat) (kind xn : Int) (xr : Rec) (taken : Bool) (now : Int) (ho : T.Ok k m) (hk : k ≤ 1000000) (hm : m ≤ 1000000) (hN : N ≤ 80000000) (hx : V.RecQ xr) (c0 : 7 < kind) (B : Nat) (w0 w : World) (H : List As) (HM : SL.Mod B w0 (tlk g gr gt T N :: H) w) :
    Calls Try.prog 43 #[.pointer (some ⟨gt, 0, none⟩), .agg (StE.cells ⟨kind, xn, xr, taken⟩).toArray, .int .i64 now] w (StepPost g gr gt T N ⟨kind, xn, xr, taken⟩ now B w0 H) := by
  obtain ⟨S, vB, vA, bl, Af, cf, At, ct, n, fl, tk, ⟨h1, h2, h3, h4, h5⟩, HM1⟩ := Mod.openTlk HM
  clear HM
  obtain ⟨Ab, cb, rfl, hcb, hlb, -⟩ := (HM1.pick (qrow vB 61 3 bl.length (bts 9 bl))).qSlice
  obtain ⟨Aa, ca, rfl, hca, hla, -⟩ := (HM1.pick (qrow vA 42 4 T.ans.length (anss T.ans))).qSlice
  have HM := HM1
  have HO := Aside0.mk ho
  have H1 := Aside0.mk h1
  have H2 := Aside0.mk h2
  have H3 := Aside0.mk h3
  have H4 := Aside0.mk h4
  have H5 := Aside0.mk h5
  have HX := Aside0.mk hx
  have hnb : bl.length ≤ 1000000 := by have h6 := congrArg List.length h2; rw [List.length_map] at h6; have := ho.bl; omega
  have hna : T.ans.length ≤ 1000000 := by have := ho.al; omega
  have HSS : Aside0 (S.s = 9) := ⟨by rw [show S.s = S.p.s from rfl, h1]; exact ho.ss⟩
  have HK : Aside0 (S.p.Ok k) := ⟨by rw [h1]; exact ho.p⟩
  have HHL : Aside0 ((bts 9 bl).length = bl.length * 3) := ⟨hlb⟩
  have HLA : Aside0 ((anss T.ans).length = T.ans.length * 4) := ⟨hla⟩
  have hn2 : n ≤ 80000000 := by omega
  clear HM1 h1 h2 h3 h4 h5 hx hlb hla ho
  have e0 : (kind == 0) = false := by rw [beq_eq_false_iff_ne]; omega
  have e1 : (kind == 1) = false := by rw [beq_eq_false_iff_ne]; omega
  have f0 : decide (2 ≤ kind) = true := decide_eq_true (by omega)
  have f1 : decide (kind ≤ 4) = false := decide_eq_false (by omega)
  have f2 : decide (5 ≤ kind) = true := decide_eq_true (by omega)
  have f3 : decide (kind ≤ 7) = false := decide_eq_false (by omega)
  have E : Aside0 (T.step ⟨kind, xn, xr, taken⟩ now = T) := ⟨by
    unfold TK.step
    dsimp only
    have h6 := congrArg List.length H2.out
    rw [List.length_map] at h6
    rw [if_neg (by omega), if_neg (by omega), if_neg (by omega), if_neg (by omega)]⟩
  go_enter Try.func43, Try.ntmps43
  go_wp2_with (first | ((with_reducible refine gate_dst (N := 3) rfl ?_); (with_reducible apply sl_box HM); (first | exact Ev.tmp rfl); exact rfl; clear HM; (try clear wq); intro g3 wq HM; (try simp only [Act.put, List.setIfInBounds_toArray, List.set_cons_zero, List.set_cons_succ])) | ((with_reducible refine gate_dst (N := 4) rfl ?_); (with_reducible apply sl_box HM); (first | exact Ev.tmp rfl); exact rfl; clear HM; (try clear wq); intro g4 wq HM; (try simp only [Act.put, List.setIfInBounds_toArray, List.set_cons_zero, List.set_cons_succ])))
  refine wp_drawnS HM [] [(0, 1), (1, 0), (2, 1), (3, 1), (4, 1), (5, 0), (6, 1), (7, 1), (8, 1), (9, 1), (10, 0), (11, 1), (12, 1), (13, 1), (14, 1), (15, 0), (16, 0), (17, 1), (18, 1), (19, 0), (20, 1), (21, 1), (22, 1), (23, 1)] (by kernel_rfl) (by kernel_rfl) (by kernel_rfl) (by kernel_rfl) (fun _ _ d _ _ h => by cases d <;> exact h) ?_; clear HM; (try clear wq); intro wq HM
  repeat (first | ((with_reducible apply t_move); exact rfl; exact rfl; (first | exact Ev.tmp rfl); (try simp only [Act.put, List.setIfInBounds_toArray, List.set_cons_zero, List.set_cons_succ])) | ((with_reducible apply t_assign); exact rfl; exact rfl; (first | exact Ev.tmp rfl); (try simp only [Act.put, List.setIfInBounds_toArray, List.set_cons_zero, List.set_cons_succ])) | ((with_reducible apply t_load HM); exact rfl; exact rfl; exact rfl; infer_instance; infer_instance; infer_instance; (try simp only [Act.put, List.setIfInBounds_toArray, List.set_cons_zero, List.set_cons_succ])) | ((with_reducible apply t_skip); exact rfl; exact rfl; (try simp only [Act.put, List.setIfInBounds_toArray, List.set_cons_zero, List.set_cons_succ])) | ((with_reducible apply t_skip0 HM); exact rfl; exact rfl; infer_instance; (try simp only [Act.put, List.setIfInBounds_toArray, List.set_cons_zero, List.set_cons_succ])) | ((with_reducible apply t_pure); exact rfl; exact rfl; (focus (intro wv; go_simp; (try (go_ints; (try go_simp))); (first | rfl))); (try simp only [Act.put, List.setIfInBounds_toArray, List.set_cons_zero, List.set_cons_succ])))
  refine t_nil ?_
  go_wp2_with (first | ((with_reducible refine gate_dst (N := 217) rfl ?_); (with_reducible apply sl_append_lit HM); (first | exact Ev.const); infer_instance; (first | exact Ev.const); infer_instance; infer_instance; exact rfl; infer_instance; (first | (simp only [List.length_append, List.length_cons, List.length_nil] at *; omega)); clear HM; (try clear wq); intro v217 wq HM; (try simp only [Act.put, List.setIfInBounds_toArray, List.set_cons_zero, List.set_cons_succ]); haveI := HM.rowOne v217))
  refine wp_drawnS HM [] [(0, 1), (1, 0), (2, 1), (3, 1), (4, 1), (5, 0), (6, 1), (7, 1), (8, 1), (9, 1), (10, 0), (11, 1), (12, 1), (13, 1), (14, 1), (15, 0), (16, 0), (17, 1), (18, 1), (19, 0), (20, 1), (21, 1), (22, 1), (23, 1)] (by kernel_rfl) (by kernel_rfl) (by kernel_rfl) (by kernel_rfl) (fun _ _ d _ _ h => by cases d <;> exact h) ?_; clear HM; (try clear wq); intro wq HM
  repeat (first | ((with_reducible apply t_move); exact rfl; exact rfl; (first | exact Ev.tmp rfl); (try simp only [Act.put, List.setIfInBounds_toArray, List.set_cons_zero, List.set_cons_succ])) | ((with_reducible apply t_assign); exact rfl; exact rfl; (first | exact Ev.tmp rfl); (try simp only [Act.put, List.setIfInBounds_toArray, List.set_cons_zero, List.set_cons_succ])) | ((with_reducible apply t_load HM); exact rfl; exact rfl; exact rfl; infer_instance; infer_instance; infer_instance; (try simp only [Act.put, List.setIfInBounds_toArray, List.set_cons_zero, List.set_cons_succ])) | ((with_reducible apply t_skip); exact rfl; exact rfl; (try simp only [Act.put, List.setIfInBounds_toArray, List.set_cons_zero, List.set_cons_succ])) | ((with_reducible apply t_skip0 HM); exact rfl; exact rfl; infer_instance; (try simp only [Act.put, List.setIfInBounds_toArray, List.set_cons_zero, List.set_cons_succ])) | ((with_reducible apply t_pure); exact rfl; exact rfl; (focus (intro wv; go_simp; (try (go_ints; (try go_simp))); (first | rfl))); (try simp only [Act.put, List.setIfInBounds_toArray, List.set_cons_zero, List.set_cons_succ])))
  refine t_nil ?_
  go_wp2_with (first | ((with_reducible apply sl_load HM); exact rfl; infer_instance; infer_instance; (try simp only [Act.put, List.setIfInBounds_toArray, List.set_cons_zero, List.set_cons_succ])))
  refine bodyPost_end (results_none rfl _ _ _) rfl (show StepPost g gr gt T N _ now B w0 H _ _ from ⟨rfl, ?_⟩)
  rw [E.out]
  have HM1 : SL.Mod B w0 (tlkL g gr gt S T.r (.slice Ab bl.length cb) (.slice Aa T.ans.length ca) bl T.ans Af cf At ct n fl tk H) _ := HM.sub
  exact Mod.closeTlk HM1 H1.out H2.out (by have := H3.out; omega) H4.out H5.out rfl rfl
set_option maxHeartbeats 8000000 in
set_option maxRecDepth 100000 in
theorem step_n3 (g gr gt : Nat) (T : TK) (N k m : Nat) (kind xn : Int) (xr : Rec) (taken : Bool) (now : Int) (ho : T.Ok k m) (hk : k ≤ 1000000) (hm : m ≤ 1000000) (hN : N ≤ 80000000) (hx : V.RecQ xr) (c0 : 2 ≤ kind) (c1 : kind ≤ 4) (c2 : xn < 0) (B : Nat) (w0 w : World) (H : List As) (HM : SL.Mod B w0 (tlk g gr gt T N :: H) w) :
    Calls Try.prog 43 #[.pointer (some ⟨gt, 0, none⟩), .agg (StE.cells ⟨kind, xn, xr, taken⟩).toArray, .int .i64 now] w (StepPost g gr gt T N ⟨kind, xn, xr, taken⟩ now B w0 H) := by
  obtain ⟨S, vB, vA, bl, Af, cf, At, ct, n, fl, tk, ⟨h1, h2, h3, h4, h5⟩, HM1⟩ := Mod.openTlk HM
  clear HM
  obtain ⟨Ab, cb, rfl, hcb, hlb, -⟩ := (HM1.pick (qrow vB 61 3 bl.length (bts 9 bl))).qSlice
  obtain ⟨Aa, ca, rfl, hca, hla, -⟩ := (HM1.pick (qrow vA 42 4 T.ans.length (anss T.ans))).qSlice
  have HM := HM1
  have HO := Aside0.mk ho
  have H1 := Aside0.mk h1
  have H2 := Aside0.mk h2
  have H3 := Aside0.mk h3
  have H4 := Aside0.mk h4
  have H5 := Aside0.mk h5
  have HX := Aside0.mk hx
  have hnb : bl.length ≤ 1000000 := by have h6 := congrArg List.length h2; rw [List.length_map] at h6; have := ho.bl; omega
  have hna : T.ans.length ≤ 1000000 := by have := ho.al; omega
  have HSS : Aside0 (S.s = 9) := ⟨by rw [show S.s = S.p.s from rfl, h1]; exact ho.ss⟩
  have HK : Aside0 (S.p.Ok k) := ⟨by rw [h1]; exact ho.p⟩
  have HHL : Aside0 ((bts 9 bl).length = bl.length * 3) := ⟨hlb⟩
  have HLA : Aside0 ((anss T.ans).length = T.ans.length * 4) := ⟨hla⟩
  have hn2 : n ≤ 80000000 := by omega
  clear HM1 h1 h2 h3 h4 h5 hx hlb hla ho
  have e0 : (kind == 0) = false := by rw [beq_eq_false_iff_ne]; omega
  have e1 : (kind == 1) = false := by rw [beq_eq_false_iff_ne]; omega
  have f0 : decide (2 ≤ kind) = true := decide_eq_true (by omega)
  have f1 : decide (kind ≤ 4) = true := decide_eq_true (by omega)
  have f2 : decide (5 ≤ kind) = false := decide_eq_false (by omega)
  have f3 : decide (0 ≤ xn) = false := decide_eq_false (by omega)
  have E : Aside0 (T.step ⟨kind, xn, xr, taken⟩ now = T) := ⟨by
    unfold TK.step
    dsimp only
    have h6 := congrArg List.length H2.out
    rw [List.length_map] at h6
    rw [if_neg (by omega), if_neg (by omega), if_neg (by omega), if_neg (by omega)]⟩
  go_enter Try.func43, Try.ntmps43
  go_wp2_with (first | ((with_reducible refine gate_dst (N := 3) rfl ?_); (with_reducible apply sl_box HM); (first | exact Ev.tmp rfl); exact rfl; clear HM; (try clear wq); intro g3 wq HM; (try simp only [Act.put, List.setIfInBounds_toArray, List.set_cons_zero, List.set_cons_succ])) | ((with_reducible refine gate_dst (N := 4) rfl ?_); (with_reducible apply sl_box HM); (first | exact Ev.tmp rfl); exact rfl; clear HM; (try clear wq); intro g4 wq HM; (try simp only [Act.put, List.setIfInBounds_toArray, List.set_cons_zero, List.set_cons_succ])))
  refine wp_drawnS HM [] [(0, 1), (1, 0), (2, 1), (3, 1), (4, 1), (5, 0), (6, 1), (7, 1), (8, 1), (9, 1), (10, 0), (11, 1), (12, 1), (13, 1), (14, 1), (15, 0), (16, 0), (17, 1), (18, 1), (19, 0), (20, 1), (21, 1), (22, 1), (23, 1)] (by kernel_rfl) (by kernel_rfl) (by kernel_rfl) (by kernel_rfl) (fun _ _ d _ _ h => by cases d <;> exact h) ?_; clear HM; (try clear wq); intro wq HM
  repeat (first | ((with_reducible apply t_move); exact rfl; exact rfl; (first | exact Ev.tmp rfl); (try simp only [Act.put, List.setIfInBounds_toArray, List.set_cons_zero, List.set_cons_succ])) | ((with_reducible apply t_assign); exact rfl; exact rfl; (first | exact Ev.tmp rfl); (try simp only [Act.put, List.setIfInBounds_toArray, List.set_cons_zero, List.set_cons_succ])) | ((with_reducible apply t_load HM); exact rfl; exact rfl; exact rfl; infer_instance; infer_instance; infer_instance; (try simp only [Act.put, List.setIfInBounds_toArray, List.set_cons_zero, List.set_cons_succ])) | ((with_reducible apply t_skip); exact rfl; exact rfl; (try simp only [Act.put, List.setIfInBounds_toArray, List.set_cons_zero, List.set_cons_succ])) | ((with_reducible apply t_skip0 HM); exact rfl; exact rfl; infer_instance; (try simp only [Act.put, List.setIfInBounds_toArray, List.set_cons_zero, List.set_cons_succ])) | ((with_reducible apply t_pure); exact rfl; exact rfl; (focus (intro wv; go_simp; (try (go_ints; (try go_simp))); (first | rfl))); (try simp only [Act.put, List.setIfInBounds_toArray, List.set_cons_zero, List.set_cons_succ])))
  refine t_nil ?_
  go_wp2_with (first | ((with_reducible refine gate_dst (N := 217) rfl ?_); (with_reducible apply sl_append_lit HM); (first | exact Ev.const); infer_instance; (first | exact Ev.const); infer_instance; infer_instance; exact rfl; infer_instance; (first | (simp only [List.length_append, List.length_cons, List.length_nil] at *; omega)); clear HM; (try clear wq); intro v217 wq HM; (try simp only [Act.put, List.setIfInBounds_toArray, List.set_cons_zero, List.set_cons_succ]); haveI := HM.rowOne v217))
  refine wp_drawnS HM [] [(0, 1), (1, 0), (2, 1), (3, 1), (4, 1), (5, 0), (6, 1), (7, 1), (8, 1), (9, 1), (10, 0), (11, 1), (12, 1), (13, 1), (14, 1), (15, 0), (16, 0), (17, 1), (18, 1), (19, 0), (20, 1), (21, 1), (22, 1), (23, 1)] (by kernel_rfl) (by kernel_rfl) (by kernel_rfl) (by kernel_rfl) (fun _ _ d _ _ h => by cases d <;> exact h) ?_; clear HM; (try clear wq); intro wq HM
  repeat (first | ((with_reducible apply t_move); exact rfl; exact rfl; (first | exact Ev.tmp rfl); (try simp only [Act.put, List.setIfInBounds_toArray, List.set_cons_zero, List.set_cons_succ])) | ((with_reducible apply t_assign); exact rfl; exact rfl; (first | exact Ev.tmp rfl); (try simp only [Act.put, List.setIfInBounds_toArray, List.set_cons_zero, List.set_cons_succ])) | ((with_reducible apply t_load HM); exact rfl; exact rfl; exact rfl; infer_instance; infer_instance; infer_instance; (try simp only [Act.put, List.setIfInBounds_toArray, List.set_cons_zero, List.set_cons_succ])) | ((with_reducible apply t_skip); exact rfl; exact rfl; (try simp only [Act.put, List.setIfInBounds_toArray, List.set_cons_zero, List.set_cons_succ])) | ((with_reducible apply t_skip0 HM); exact rfl; exact rfl; infer_instance; (try simp only [Act.put, List.setIfInBounds_toArray, List.set_cons_zero, List.set_cons_succ])) | ((with_reducible apply t_pure); exact rfl; exact rfl; (focus (intro wv; go_simp; (try (go_ints; (try go_simp))); (first | rfl))); (try simp only [Act.put, List.setIfInBounds_toArray, List.set_cons_zero, List.set_cons_succ])))
  refine t_nil ?_
  go_wp2_with (first | ((with_reducible apply sl_load HM); exact rfl; infer_instance; infer_instance; (try simp only [Act.put, List.setIfInBounds_toArray, List.set_cons_zero, List.set_cons_succ])))
  refine bodyPost_end (results_none rfl _ _ _) rfl (show StepPost g gr gt T N _ now B w0 H _ _ from ⟨rfl, ?_⟩)
  rw [E.out]
  have HM1 : SL.Mod B w0 (tlkL g gr gt S T.r (.slice Ab bl.length cb) (.slice Aa T.ans.length ca) bl T.ans Af cf At ct n fl tk H) _ := HM.sub
  exact Mod.closeTlk HM1 H1.out H2.out (by have := H3.out; omega) H4.out H5.out rfl rfl
set_option maxHeartbeats 8000000 in
set_option maxRecDepth 100000 in
theorem step_n4 (g gr gt : Nat) (T : TK) (N k m : Nat) (kind xn : Int) (xr : Rec) (taken : Bool) (now : Int) (ho : T.Ok k m) (hk : k ≤ 1000000) (hm : m ≤ 1000000) (hN : N ≤ 80000000) (hx : V.RecQ xr) (c0 : 2 ≤ kind) (c1 : kind ≤ 4) (c2 : 0 ≤ xn) (c3 : (T.bs.length : Int) ≤ xn) (B : Nat) (w0 w : World) (H : List As) (HM : SL.Mod B w0 (tlk g gr gt T N :: H) w) :
    Calls Try.prog 43 #[.pointer (some ⟨gt, 0, none⟩), .agg (StE.cells ⟨kind, xn, xr, taken⟩).toArray, .int .i64 now] w (StepPost g gr gt T N ⟨kind, xn, xr, taken⟩ now B w0 H) := by
  obtain ⟨S, vB, vA, bl, Af, cf, At, ct, n, fl, tk, ⟨h1, h2, h3, h4, h5⟩, HM1⟩ := Mod.openTlk HM
  clear HM
  obtain ⟨Ab, cb, rfl, hcb, hlb, -⟩ := (HM1.pick (qrow vB 61 3 bl.length (bts 9 bl))).qSlice
  obtain ⟨Aa, ca, rfl, hca, hla, -⟩ := (HM1.pick (qrow vA 42 4 T.ans.length (anss T.ans))).qSlice
  have HM := HM1
  have HO := Aside0.mk ho
  have H1 := Aside0.mk h1
  have H2 := Aside0.mk h2
  have H3 := Aside0.mk h3
  have H4 := Aside0.mk h4
  have H5 := Aside0.mk h5
  have HX := Aside0.mk hx
  have hnb : bl.length ≤ 1000000 := by have h6 := congrArg List.length h2; rw [List.length_map] at h6; have := ho.bl; omega
  have hna : T.ans.length ≤ 1000000 := by have := ho.al; omega
  have HSS : Aside0 (S.s = 9) := ⟨by rw [show S.s = S.p.s from rfl, h1]; exact ho.ss⟩
  have HK : Aside0 (S.p.Ok k) := ⟨by rw [h1]; exact ho.p⟩
  have HHL : Aside0 ((bts 9 bl).length = bl.length * 3) := ⟨hlb⟩
  have HLA : Aside0 ((anss T.ans).length = T.ans.length * 4) := ⟨hla⟩
  have hn2 : n ≤ 80000000 := by omega
  clear HM1 h1 h2 h3 h4 h5 hx hlb hla ho
  have h6 : bl.length = T.bs.length := by rw [← H2.out, List.length_map]
  have e0 : (kind == 0) = false := by rw [beq_eq_false_iff_ne]; omega
  have e1 : (kind == 1) = false := by rw [beq_eq_false_iff_ne]; omega
  have f0 : decide (2 ≤ kind) = true := decide_eq_true (by omega)
  have f1 : decide (kind ≤ 4) = true := decide_eq_true (by omega)
  have f2 : decide (5 ≤ kind) = false := decide_eq_false (by omega)
  have f3 : decide (0 ≤ xn) = true := decide_eq_true (by omega)
  have f4 : decide (xn < (bl.length : Int)) = false := decide_eq_false (by omega)
  clear h6
  have E : Aside0 (T.step ⟨kind, xn, xr, taken⟩ now = T) := ⟨by
    unfold TK.step
    dsimp only
    have h6 := congrArg List.length H2.out
    rw [List.length_map] at h6
    rw [if_neg (by omega), if_neg (by omega), if_neg (by omega), if_neg (by omega)]⟩
  go_enter Try.func43, Try.ntmps43
  go_wp2_with (first | ((with_reducible refine gate_dst (N := 3) rfl ?_); (with_reducible apply sl_box HM); (first | exact Ev.tmp rfl); exact rfl; clear HM; (try clear wq); intro g3 wq HM; (try simp only [Act.put, List.setIfInBounds_toArray, List.set_cons_zero, List.set_cons_succ])) | ((with_reducible refine gate_dst (N := 4) rfl ?_); (with_reducible apply sl_box HM); (first | exact Ev.tmp rfl); exact rfl; clear HM; (try clear wq); intro g4 wq HM; (try simp only [Act.put, List.setIfInBounds_toArray, List.set_cons_zero, List.set_cons_succ])))
  refine wp_drawnS HM [] [(0, 1), (1, 0), (2, 1), (3, 1), (4, 1), (5, 0), (6, 1), (7, 1), (8, 1), (9, 1), (10, 0), (11, 1), (12, 1), (13, 1), (14, 1), (15, 0), (16, 0), (17, 1), (18, 1), (19, 0), (20, 1), (21, 1), (22, 1), (23, 1)] (by kernel_rfl) (by kernel_rfl) (by kernel_rfl) (by kernel_rfl) (fun _ _ d _ _ h => by cases d <;> exact h) ?_; clear HM; (try clear wq); intro wq HM
  repeat (first | ((with_reducible apply t_move); exact rfl; exact rfl; (first | exact Ev.tmp rfl); (try simp only [Act.put, List.setIfInBounds_toArray, List.set_cons_zero, List.set_cons_succ])) | ((with_reducible apply t_assign); exact rfl; exact rfl; (first | exact Ev.tmp rfl); (try simp only [Act.put, List.setIfInBounds_toArray, List.set_cons_zero, List.set_cons_succ])) | ((with_reducible apply t_load HM); exact rfl; exact rfl; exact rfl; infer_instance; infer_instance; infer_instance; (try simp only [Act.put, List.setIfInBounds_toArray, List.set_cons_zero, List.set_cons_succ])) | ((with_reducible apply t_pure); exact rfl; exact rfl; (focus (intro wv; go_simp; (try (go_ints; (try go_simp))); (first | rfl))); (try simp only [Act.put, List.setIfInBounds_toArray, List.set_cons_zero, List.set_cons_succ])))
  refine t_nil ?_
  go_wp2_with (first | ((with_reducible refine gate_dst (N := 217) rfl ?_); (with_reducible apply sl_append_lit HM); (first | exact Ev.const); infer_instance; (first | exact Ev.const); infer_instance; infer_instance; exact rfl; infer_instance; (first | (simp only [List.length_append, List.length_cons, List.length_nil] at *; omega)); clear HM; (try clear wq); intro v217 wq HM; (try simp only [Act.put, List.setIfInBounds_toArray, List.set_cons_zero, List.set_cons_succ]); haveI := HM.rowOne v217))
  refine wp_drawnS HM [] [(0, 1), (1, 0), (2, 1), (3, 1), (4, 1), (5, 0), (6, 1), (7, 1), (8, 1), (9, 1), (10, 0), (11, 1), (12, 1), (13, 1), (14, 1), (15, 0), (16, 0), (17, 1), (18, 1), (19, 0), (20, 1), (21, 1), (22, 1), (23, 1)] (by kernel_rfl) (by kernel_rfl) (by kernel_rfl) (by kernel_rfl) (fun _ _ d _ _ h => by cases d <;> exact h) ?_; clear HM; (try clear wq); intro wq HM
  repeat (first | ((with_reducible apply t_move); exact rfl; exact rfl; (first | exact Ev.tmp rfl); (try simp only [Act.put, List.setIfInBounds_toArray, List.set_cons_zero, List.set_cons_succ])) | ((with_reducible apply t_assign); exact rfl; exact rfl; (first | exact Ev.tmp rfl); (try simp only [Act.put, List.setIfInBounds_toArray, List.set_cons_zero, List.set_cons_succ])) | ((with_reducible apply t_load HM); exact rfl; exact rfl; exact rfl; infer_instance; infer_instance; infer_instance; (try simp only [Act.put, List.setIfInBounds_toArray, List.set_cons_zero, List.set_cons_succ])) | ((with_reducible apply t_skip); exact rfl; exact rfl; (try simp only [Act.put, List.setIfInBounds_toArray, List.set_cons_zero, List.set_cons_succ])) | ((with_reducible apply t_skip0 HM); exact rfl; exact rfl; infer_instance; (try simp only [Act.put, List.setIfInBounds_toArray, List.set_cons_zero, List.set_cons_succ])) | ((with_reducible apply t_pure); exact rfl; exact rfl; (focus (intro wv; go_simp; (try (go_ints; (try go_simp))); (first | rfl))); (try simp only [Act.put, List.setIfInBounds_toArray, List.set_cons_zero, List.set_cons_succ])))
  refine t_nil ?_
  go_wp2_with (first | ((with_reducible apply sl_load HM); exact rfl; infer_instance; infer_instance; (try simp only [Act.put, List.setIfInBounds_toArray, List.set_cons_zero, List.set_cons_succ])))
  refine bodyPost_end (results_none rfl _ _ _) rfl (show StepPost g gr gt T N _ now B w0 H _ _ from ⟨rfl, ?_⟩)
  rw [E.out]
  have HM1 : SL.Mod B w0 (tlkL g gr gt S T.r (.slice Ab bl.length cb) (.slice Aa T.ans.length ca) bl T.ans Af cf At ct n fl tk H) _ := HM.sub
  exact Mod.closeTlk HM1 H1.out H2.out (by have := H3.out; omega) H4.out H5.out rfl rfl
set_option maxHeartbeats 8000000 in
set_option maxRecDepth 100000 in
theorem step_n5 (g gr gt : Nat) (T : TK) (N k m : Nat) (kind xn : Int) (xr : Rec) (taken : Bool) (now : Int) (ho : T.Ok k m) (hk : k ≤ 1000000) (hm : m ≤ 1000000) (hN : N ≤ 80000000) (hx : V.RecQ xr) (c0 : 5 ≤ kind) (c1 : kind ≤ 7) (c2 : xn < 0) (B : Nat) (w0 w : World) (H : List As) (HM : SL.Mod B w0 (tlk g gr gt T N :: H) w) :
    Calls Try.prog 43 #[.pointer (some ⟨gt, 0, none⟩), .agg (StE.cells ⟨kind, xn, xr, taken⟩).toArray, .int .i64 now] w (StepPost g gr gt T N ⟨kind, xn, xr, taken⟩ now B w0 H) := by
  obtain ⟨S, vB, vA, bl, Af, cf, At, ct, n, fl, tk, ⟨h1, h2, h3, h4, h5⟩, HM1⟩ := Mod.openTlk HM
  clear HM
  obtain ⟨Ab, cb, rfl, hcb, hlb, -⟩ := (HM1.pick (qrow vB 61 3 bl.length (bts 9 bl))).qSlice
  obtain ⟨Aa, ca, rfl, hca, hla, -⟩ := (HM1.pick (qrow vA 42 4 T.ans.length (anss T.ans))).qSlice
  have HM := HM1
  have HO := Aside0.mk ho
  have H1 := Aside0.mk h1
  have H2 := Aside0.mk h2
  have H3 := Aside0.mk h3
  have H4 := Aside0.mk h4
  have H5 := Aside0.mk h5
  have HX := Aside0.mk hx
  have hnb : bl.length ≤ 1000000 := by have h6 := congrArg List.length h2; rw [List.length_map] at h6; have := ho.bl; omega
  have hna : T.ans.length ≤ 1000000 := by have := ho.al; omega
  have HSS : Aside0 (S.s = 9) := ⟨by rw [show S.s = S.p.s from rfl, h1]; exact ho.ss⟩
  have HK : Aside0 (S.p.Ok k) := ⟨by rw [h1]; exact ho.p⟩
  have HHL : Aside0 ((bts 9 bl).length = bl.length * 3) := ⟨hlb⟩
  have HLA : Aside0 ((anss T.ans).length = T.ans.length * 4) := ⟨hla⟩
  have hn2 : n ≤ 80000000 := by omega
  clear HM1 h1 h2 h3 h4 h5 hx hlb hla ho
  have e0 : (kind == 0) = false := by rw [beq_eq_false_iff_ne]; omega
  have e1 : (kind == 1) = false := by rw [beq_eq_false_iff_ne]; omega
  have f0 : decide (2 ≤ kind) = true := decide_eq_true (by omega)
  have f1 : decide (kind ≤ 4) = false := decide_eq_false (by omega)
  have f2 : decide (5 ≤ kind) = true := decide_eq_true (by omega)
  have f3 : decide (kind ≤ 7) = true := decide_eq_true (by omega)
  have f4 : decide (0 ≤ xn) = false := decide_eq_false (by omega)
  have E : Aside0 (T.step ⟨kind, xn, xr, taken⟩ now = T) := ⟨by
    unfold TK.step
    dsimp only
    have h6 := congrArg List.length H2.out
    rw [List.length_map] at h6
    rw [if_neg (by omega), if_neg (by omega), if_neg (by omega), if_neg (by omega)]⟩
  go_enter Try.func43, Try.ntmps43
  go_wp2_with (first | ((with_reducible refine gate_dst (N := 3) rfl ?_); (with_reducible apply sl_box HM); (first | exact Ev.tmp rfl); exact rfl; clear HM; (try clear wq); intro g3 wq HM; (try simp only [Act.put, List.setIfInBounds_toArray, List.set_cons_zero, List.set_cons_succ])) | ((with_reducible refine gate_dst (N := 4) rfl ?_); (with_reducible apply sl_box HM); (first | exact Ev.tmp rfl); exact rfl; clear HM; (try clear wq); intro g4 wq HM; (try simp only [Act.put, List.setIfInBounds_toArray, List.set_cons_zero, List.set_cons_succ])))
  refine wp_drawnS HM [] [(0, 1), (1, 0), (2, 1), (3, 1), (4, 1), (5, 0), (6, 1), (7, 1), (8, 1), (9, 1), (10, 0), (11, 1), (12, 1), (13, 1), (14, 1), (15, 0), (16, 0), (17, 1), (18, 1), (19, 0), (20, 1), (21, 1), (22, 1), (23, 1)] (by kernel_rfl) (by kernel_rfl) (by kernel_rfl) (by kernel_rfl) (fun _ _ d _ _ h => by cases d <;> exact h) ?_; clear HM; (try clear wq); intro wq HM
  repeat (first | ((with_reducible apply t_move); exact rfl; exact rfl; (first | exact Ev.tmp rfl); (try simp only [Act.put, List.setIfInBounds_toArray, List.set_cons_zero, List.set_cons_succ])) | ((with_reducible apply t_assign); exact rfl; exact rfl; (first | exact Ev.tmp rfl); (try simp only [Act.put, List.setIfInBounds_toArray, List.set_cons_zero, List.set_cons_succ])) | ((with_reducible apply t_load HM); exact rfl; exact rfl; exact rfl; infer_instance; infer_instance; infer_instance; (try simp only [Act.put, List.setIfInBounds_toArray, List.set_cons_zero, List.set_cons_succ])) | ((with_reducible apply t_skip); exact rfl; exact rfl; (try simp only [Act.put, List.setIfInBounds_toArray, List.set_cons_zero, List.set_cons_succ])) | ((with_reducible apply t_skip0 HM); exact rfl; exact rfl; infer_instance; (try simp only [Act.put, List.setIfInBounds_toArray, List.set_cons_zero, List.set_cons_succ])) | ((with_reducible apply t_pure); exact rfl; exact rfl; (focus (intro wv; go_simp; (try (go_ints; (try go_simp))); (first | rfl))); (try simp only [Act.put, List.setIfInBounds_toArray, List.set_cons_zero, List.set_cons_succ])))
  refine t_nil ?_
  go_wp2_with (first | ((with_reducible refine gate_dst (N := 217) rfl ?_); (with_reducible apply sl_append_lit HM); (first | exact Ev.const); infer_instance; (first | exact Ev.const); infer_instance; infer_instance; exact rfl; infer_instance; (first | (simp only [List.length_append, List.length_cons, List.length_nil] at *; omega)); clear HM; (try clear wq); intro v217 wq HM; (try simp only [Act.put, List.setIfInBounds_toArray, List.set_cons_zero, List.set_cons_succ]); haveI := HM.rowOne v217))
  refine wp_drawnS HM [] [(0, 1), (1, 0), (2, 1), (3, 1), (4, 1), (5, 0), (6, 1), (7, 1), (8, 1), (9, 1), (10, 0), (11, 1), (12, 1), (13, 1), (14, 1), (15, 0), (16, 0), (17, 1), (18, 1), (19, 0), (20, 1), (21, 1), (22, 1), (23, 1)] (by kernel_rfl) (by kernel_rfl) (by kernel_rfl) (by kernel_rfl) (fun _ _ d _ _ h => by cases d <;> exact h) ?_; clear HM; (try clear wq); intro wq HM
  repeat (first | ((with_reducible apply t_move); exact rfl; exact rfl; (first | exact Ev.tmp rfl); (try simp only [Act.put, List.setIfInBounds_toArray, List.set_cons_zero, List.set_cons_succ])) | ((with_reducible apply t_assign); exact rfl; exact rfl; (first | exact Ev.tmp rfl); (try simp only [Act.put, List.setIfInBounds_toArray, List.set_cons_zero, List.set_cons_succ])) | ((with_reducible apply t_load HM); exact rfl; exact rfl; exact rfl; infer_instance; infer_instance; infer_instance; (try simp only [Act.put, List.setIfInBounds_toArray, List.set_cons_zero, List.set_cons_succ])) | ((with_reducible apply t_skip); exact rfl; exact rfl; (try simp only [Act.put, List.setIfInBounds_toArray, List.set_cons_zero, List.set_cons_succ])) | ((with_reducible apply t_skip0 HM); exact rfl; exact rfl; infer_instance; (try simp only [Act.put, List.setIfInBounds_toArray, List.set_cons_zero, List.set_cons_succ])) | ((with_reducible apply t_pure); exact rfl; exact rfl; (focus (intro wv; go_simp; (try (go_ints; (try go_simp))); (first | rfl))); (try simp only [Act.put, List.setIfInBounds_toArray, List.set_cons_zero, List.set_cons_succ])))
  refine t_nil ?_
  go_wp2_with (first | ((with_reducible apply sl_load HM); exact rfl; infer_instance; infer_instance; (try simp only [Act.put, List.setIfInBounds_toArray, List.set_cons_zero, List.set_cons_succ])))
  refine bodyPost_end (results_none rfl _ _ _) rfl (show StepPost g gr gt T N _ now B w0 H _ _ from ⟨rfl, ?_⟩)
  rw [E.out]
  have HM1 : SL.Mod B w0 (tlkL g gr gt S T.r (.slice Ab bl.length cb) (.slice Aa T.ans.length ca) bl T.ans Af cf At ct n fl tk H) _ := HM.sub
  exact Mod.closeTlk HM1 H1.out H2.out (by have := H3.out; omega) H4.out H5.out rfl rfl
set_option maxHeartbeats 8000000 in
set_option maxRecDepth 100000 in
theorem step_n6 (g gr gt : Nat) (T : TK) (N k m : Nat) (kind xn : Int) (xr : Rec) (taken : Bool) (now : Int) (ho : T.Ok k m) (hk : k ≤ 1000000) (hm : m ≤ 1000000) (hN : N ≤ 80000000) (hx : V.RecQ xr) (c0 : 5 ≤ kind) (c1 : kind ≤ 7) (c2 : 0 ≤ xn) (c3 : (T.ans.length : Int) ≤ xn) (B : Nat) (w0 w : World) (H : List As) (HM : SL.Mod B w0 (tlk g gr gt T N :: H) w) :
    Calls Try.prog 43 #[.pointer (some ⟨gt, 0, none⟩), .agg (StE.cells ⟨kind, xn, xr, taken⟩).toArray, .int .i64 now] w (StepPost g gr gt T N ⟨kind, xn, xr, taken⟩ now B w0 H) := by
  obtain ⟨S, vB, vA, bl, Af, cf, At, ct, n, fl, tk, ⟨h1, h2, h3, h4, h5⟩, HM1⟩ := Mod.openTlk HM
  clear HM
  obtain ⟨Ab, cb, rfl, hcb, hlb, -⟩ := (HM1.pick (qrow vB 61 3 bl.length (bts 9 bl))).qSlice
  obtain ⟨Aa, ca, rfl, hca, hla, -⟩ := (HM1.pick (qrow vA 42 4 T.ans.length (anss T.ans))).qSlice
  have HM := HM1
  have HO := Aside0.mk ho
  have H1 := Aside0.mk h1
  have H2 := Aside0.mk h2
  have H3 := Aside0.mk h3
  have H4 := Aside0.mk h4
  have H5 := Aside0.mk h5
  have HX := Aside0.mk hx
  have hnb : bl.length ≤ 1000000 := by have h6 := congrArg List.length h2; rw [List.length_map] at h6; have := ho.bl; omega
  have hna : T.ans.length ≤ 1000000 := by have := ho.al; omega
  have HSS : Aside0 (S.s = 9) := ⟨by rw [show S.s = S.p.s from rfl, h1]; exact ho.ss⟩
  have HK : Aside0 (S.p.Ok k) := ⟨by rw [h1]; exact ho.p⟩
  have HHL : Aside0 ((bts 9 bl).length = bl.length * 3) := ⟨hlb⟩
  have HLA : Aside0 ((anss T.ans).length = T.ans.length * 4) := ⟨hla⟩
  have hn2 : n ≤ 80000000 := by omega
  clear HM1 h1 h2 h3 h4 h5 hx hlb hla ho
  have e0 : (kind == 0) = false := by rw [beq_eq_false_iff_ne]; omega
  have e1 : (kind == 1) = false := by rw [beq_eq_false_iff_ne]; omega
  have f0 : decide (2 ≤ kind) = true := decide_eq_true (by omega)
  have f1 : decide (kind ≤ 4) = false := decide_eq_false (by omega)
  have f2 : decide (5 ≤ kind) = true := decide_eq_true (by omega)
  have f3 : decide (kind ≤ 7) = true := decide_eq_true (by omega)
  have f4 : decide (0 ≤ xn) = true := decide_eq_true (by omega)
  have f5 : decide (xn < (T.ans.length : Int)) = false := decide_eq_false (by omega)
  have E : Aside0 (T.step ⟨kind, xn, xr, taken⟩ now = T) := ⟨by
    unfold TK.step
    dsimp only
    have h6 := congrArg List.length H2.out
    rw [List.length_map] at h6
    rw [if_neg (by omega), if_neg (by omega), if_neg (by omega), if_neg (by omega)]⟩
  go_enter Try.func43, Try.ntmps43
  go_wp2_with (first | ((with_reducible refine gate_dst (N := 3) rfl ?_); (with_reducible apply sl_box HM); (first | exact Ev.tmp rfl); exact rfl; clear HM; (try clear wq); intro g3 wq HM; (try simp only [Act.put, List.setIfInBounds_toArray, List.set_cons_zero, List.set_cons_succ])) | ((with_reducible refine gate_dst (N := 4) rfl ?_); (with_reducible apply sl_box HM); (first | exact Ev.tmp rfl); exact rfl; clear HM; (try clear wq); intro g4 wq HM; (try simp only [Act.put, List.setIfInBounds_toArray, List.set_cons_zero, List.set_cons_succ])))
  refine wp_drawnS HM [] [(0, 1), (1, 0), (2, 1), (3, 1), (4, 1), (5, 0), (6, 1), (7, 1), (8, 1), (9, 1), (10, 0), (11, 1), (12, 1), (13, 1), (14, 1), (15, 0), (16, 0), (17, 1), (18, 1), (19, 0), (20, 1), (21, 1), (22, 1), (23, 1)] (by kernel_rfl) (by kernel_rfl) (by kernel_rfl) (by kernel_rfl) (fun _ _ d _ _ h => by cases d <;> exact h) ?_; clear HM; (try clear wq); intro wq HM
  repeat (first | ((with_reducible apply t_move); exact rfl; exact rfl; (first | exact Ev.tmp rfl); (try simp only [Act.put, List.setIfInBounds_toArray, List.set_cons_zero, List.set_cons_succ])) | ((with_reducible apply t_assign); exact rfl; exact rfl; (first | exact Ev.tmp rfl); (try simp only [Act.put, List.setIfInBounds_toArray, List.set_cons_zero, List.set_cons_succ])) | ((with_reducible apply t_load HM); exact rfl; exact rfl; exact rfl; infer_instance; infer_instance; infer_instance; (try simp only [Act.put, List.setIfInBounds_toArray, List.set_cons_zero, List.set_cons_succ])) | ((with_reducible apply t_skip); exact rfl; exact rfl; (try simp only [Act.put, List.setIfInBounds_toArray, List.set_cons_zero, List.set_cons_succ])) | ((with_reducible apply t_skip0 HM); exact rfl; exact rfl; infer_instance; (try simp only [Act.put, List.setIfInBounds_toArray, List.set_cons_zero, List.set_cons_succ])) | ((with_reducible apply t_pure); exact rfl; exact rfl; (focus (intro wv; go_simp; (try (go_ints; (try go_simp))); (first | rfl))); (try simp only [Act.put, List.setIfInBounds_toArray, List.set_cons_zero, List.set_cons_succ])))
  refine t_nil ?_
  go_wp2_with (first | ((with_reducible refine gate_dst (N := 217) rfl ?_); (with_reducible apply sl_append_lit HM); (first | exact Ev.const); infer_instance; (first | exact Ev.const); infer_instance; infer_instance; exact rfl; infer_instance; (first | (simp only [List.length_append, List.length_cons, List.length_nil] at *; omega)); clear HM; (try clear wq); intro v217 wq HM; (try simp only [Act.put, List.setIfInBounds_toArray, List.set_cons_zero, List.set_cons_succ]); haveI := HM.rowOne v217))
  refine wp_drawnS HM [] [(0, 1), (1, 0), (2, 1), (3, 1), (4, 1), (5, 0), (6, 1), (7, 1), (8, 1), (9, 1), (10, 0), (11, 1), (12, 1), (13, 1), (14, 1), (15, 0), (16, 0), (17, 1), (18, 1), (19, 0), (20, 1), (21, 1), (22, 1), (23, 1)] (by kernel_rfl) (by kernel_rfl) (by kernel_rfl) (by kernel_rfl) (fun _ _ d _ _ h => by cases d <;> exact h) ?_; clear HM; (try clear wq); intro wq HM
  repeat (first | ((with_reducible apply t_move); exact rfl; exact rfl; (first | exact Ev.tmp rfl); (try simp only [Act.put, List.setIfInBounds_toArray, List.set_cons_zero, List.set_cons_succ])) | ((with_reducible apply t_assign); exact rfl; exact rfl; (first | exact Ev.tmp rfl); (try simp only [Act.put, List.setIfInBounds_toArray, List.set_cons_zero, List.set_cons_succ])) | ((with_reducible apply t_load HM); exact rfl; exact rfl; exact rfl; infer_instance; infer_instance; infer_instance; (try simp only [Act.put, List.setIfInBounds_toArray, List.set_cons_zero, List.set_cons_succ])) | ((with_reducible apply t_pure); exact rfl; exact rfl; (focus (intro wv; go_simp; (try (go_ints; (try go_simp))); (first | rfl))); (try simp only [Act.put, List.setIfInBounds_toArray, List.set_cons_zero, List.set_cons_succ])))
  refine t_nil ?_
  go_wp2_with (first | ((with_reducible apply sl_load HM); exact rfl; infer_instance; infer_instance; (try simp only [Act.put, List.setIfInBounds_toArray, List.set_cons_zero, List.set_cons_succ])))
  refine bodyPost_end (results_none rfl _ _ _) rfl (show StepPost g gr gt T N _ now B w0 H _ _ from ⟨rfl, ?_⟩)
  rw [E.out]
  have HM1 : SL.Mod B w0 (tlkL g gr gt S T.r (.slice Ab bl.length cb) (.slice Aa T.ans.length ca) bl T.ans Af cf At ct n fl tk H) _ := HM.sub
  exact Mod.closeTlk HM1 H1.out H2.out (by have := H3.out; omega) H4.out H5.out rfl rfl
end Go.Proofs.Ytghfoooldcbdnaa
