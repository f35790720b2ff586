/-
  PART 15 OF THE PROOF OF SyncinEnds: laid together from the proof's own texts: Stp4, Stp5.
-/
import Derived.Test.YtghfoooldcbdnaaEnd12
set_option linter.unusedVariables false
set_option linter.unusedSimpArgs false
namespace Go.Proofs.Ytghfoooldcbdnaa
open Go.RowKit Go.Proofs.Ytghfoooldcbdnaa.SL Go.Proofs.YtghfoooldcbdnaaW.PrintWords Go.Proofs.YtghfoooldcbdnaaW.PrintLast
set_option maxHeartbeats 8000000 in
set_option maxRecDepth 100000 in
theorem step_adup (g gr gt : Nat) (T : TK) (N k m : Nat)  (xr : Rec) (taken : Bool) (now : Int) (ho : T.Ok k m) (hk : k ≤ 1000000) (hm : m ≤ 1000000) (hN : N ≤ 80000000) (hx : V.RecQ xr) (i : Nat) (b : An) (hi : i < T.ans.length) (hb : T.ans[i]? = some b) (B : Nat) (w0 w : World) (H : List As) (HM : SL.Mod B w0 (tlk g gr gt T N :: H) w) :
    Calls Try.prog 43 #[.pointer (some ⟨gt, 0, none⟩), .agg (StE.cells ⟨7, (i : Int), xr, taken⟩).toArray, .int .i64 now] w (StepPost g gr gt T N ⟨7, (i : Int), xr, taken⟩ now B w0 H) := by
  obtain ⟨S, vB, vA, bl, Af, cf, At, ct, n, fl, tk, ⟨h1, h2, h3, h4, h5⟩, HM1⟩ := Mod.openTlk HM
  clear HM
  obtain ⟨Ab, cb, rfl, hcb, hlb, -⟩ := (HM1.pick (qrow vB 61 3 bl.length (bts 9 bl))).qSlice
  obtain ⟨Aa, ca, rfl, hca, hla, -⟩ := (HM1.pick (qrow vA 42 4 T.ans.length (anss T.ans))).qSlice
  have HM := HM1
  have HO := Aside0.mk ho
  have H1 := Aside0.mk h1
  have H2 := Aside0.mk h2
  have H3 := Aside0.mk h3
  have H4 := Aside0.mk h4
  have H5 := Aside0.mk h5
  have HX := Aside0.mk hx
  have hnb : bl.length ≤ 1000000 := by have h6 := congrArg List.length h2; rw [List.length_map] at h6; have := ho.bl; omega
  have hna : T.ans.length ≤ 1000000 := by have := ho.al; omega
  have HSS : Aside0 (S.s = 9) := ⟨by rw [show S.s = S.p.s from rfl, h1]; exact ho.ss⟩
  have HK : Aside0 (S.p.Ok k) := ⟨by rw [h1]; exact ho.p⟩
  have HHL : Aside0 ((bts 9 bl).length = bl.length * 3) := ⟨hlb⟩
  have HLA : Aside0 ((anss T.ans).length = T.ans.length * 4) := ⟨hla⟩
  have hn2 : n ≤ 80000000 := by omega
  clear HM1 h1 h2 h3 h4 h5 hx hlb hla ho
  have hil : i < T.ans.length := hi
  obtain ⟨y0, y1, y2, y3⟩ := b
  obtain ⟨ad, rfl⟩ := (Mod.qReads (HM.pick (qrow (.slice Aa T.ans.length ca) 42 4 T.ans.length (anss T.ans)))).addr (by rw [HLA.out]; omega)
  have hld : Aside0 (∀ w', SL.Mod B w0 [qrow (.slice (some ad) T.ans.length ca) 42 4 T.ans.length (anss T.ans)] w' → Sem.run Try.prog (Instr.loadAt 42 (.pointer (some (ad.add (i * 4))))) w' = .ok (.agg (An.cells (y0, y1, y2, y3)).toArray) w') := ⟨fun w' h => q_load an_len h hb⟩
  have hd0 : decide ((0 : Int) ≤ (i : Int)) = true := decide_eq_true (by omega)
  have hd1 : decide (i < T.ans.length) = true := decide_eq_true hil
  have HBB := Aside0.mk hb
  have HAF := Aside0.mk (HO.out.af _ (List.mem_of_getElem? hb))
  simp only [An.cells] at hld
  clear hb hi
  have E : Aside0 (T.step ⟨7, (i : Int), xr, taken⟩ now = { T with ans := T.ans ++ [(y0, y1, y2, y3)] }) := ⟨by
    unfold TK.step
    dsimp only
    rw [if_neg (by omega), if_neg (by omega), if_neg (by omega), if_pos ⟨by omega, by omega, by omega, by omega⟩, Int.toNat_natCast, HBB.out]
    dsimp only
    rw [if_pos rfl]⟩
  go_enter Try.func43, Try.ntmps43
  go_wp2_with (first | ((with_reducible refine gate_dst (N := 3) rfl ?_); (with_reducible apply sl_box HM); (first | exact Ev.tmp rfl); exact rfl; clear HM; (try clear wq); intro g3 wq HM; (try simp only [Act.put, List.setIfInBounds_toArray, List.set_cons_zero, List.set_cons_succ])) | ((with_reducible refine gate_dst (N := 4) rfl ?_); (with_reducible apply sl_box HM); (first | exact Ev.tmp rfl); exact rfl; clear HM; (try clear wq); intro g4 wq HM; (try simp only [Act.put, List.setIfInBounds_toArray, List.set_cons_zero, List.set_cons_succ])))
  refine wp_drawnS HM [] [(0, 1), (1, 0), (2, 1), (3, 1), (4, 1), (5, 0), (6, 1), (7, 1), (8, 1), (9, 1), (10, 0), (11, 1), (12, 1), (13, 1), (14, 1), (15, 0), (16, 0), (17, 1), (18, 1), (19, 0), (20, 1), (21, 1), (22, 1), (23, 1)] (by kernel_rfl) (by kernel_rfl) (by kernel_rfl) (by kernel_rfl) (fun _ _ d _ _ h => by cases d <;> exact h) ?_; clear HM; (try clear wq); intro wq HM
  repeat (first | ((with_reducible apply t_move); exact rfl; exact rfl; (first | exact Ev.tmp rfl); (try simp only [Act.put, List.setIfInBounds_toArray, List.set_cons_zero, List.set_cons_succ])) | ((with_reducible apply t_assign); exact rfl; exact rfl; (first | exact Ev.tmp rfl); (try simp only [Act.put, List.setIfInBounds_toArray, List.set_cons_zero, List.set_cons_succ])) | ((with_reducible apply t_load HM); exact rfl; exact rfl; exact rfl; infer_instance; infer_instance; infer_instance; (try simp only [Act.put, List.setIfInBounds_toArray, List.set_cons_zero, List.set_cons_succ])) | ((with_reducible apply t_skip); exact rfl; exact rfl; (try simp only [Act.put, List.setIfInBounds_toArray, List.set_cons_zero, List.set_cons_succ])) | ((with_reducible apply t_skip0 HM); exact rfl; exact rfl; infer_instance; (try simp only [Act.put, List.setIfInBounds_toArray, List.set_cons_zero, List.set_cons_succ])) | ((with_reducible apply t_pure); exact rfl; exact rfl; (focus (intro wv; go_simp; (try (go_ints; (try go_simp))); (first | rfl))); (try simp only [Act.put, List.setIfInBounds_toArray, List.set_cons_zero, List.set_cons_succ])))
  refine t_nil ?_
  go_wp2_with (first | ((with_reducible refine gate_dst (N := 217) rfl ?_); (with_reducible apply sl_append_lit HM); (first | exact Ev.const); infer_instance; (first | exact Ev.const); infer_instance; infer_instance; exact rfl; infer_instance; (first | (simp only [List.length_append, List.length_cons, List.length_nil] at *; omega)); clear HM; (try clear wq); intro v217 wq HM; (try simp only [Act.put, List.setIfInBounds_toArray, List.set_cons_zero, List.set_cons_succ]); haveI := HM.rowOne v217))
  refine wp_drawnS HM [] [(0, 1), (1, 0), (2, 1), (3, 1), (4, 1), (5, 0), (6, 1), (7, 1), (8, 1), (9, 1), (10, 0), (11, 1), (12, 1), (13, 1), (14, 1), (15, 0), (16, 0), (17, 1), (18, 1), (19, 0), (20, 1), (21, 1), (22, 1), (23, 1)] (by kernel_rfl) (by kernel_rfl) (by kernel_rfl) (by kernel_rfl) (fun _ _ d _ _ h => by cases d <;> exact h) ?_; clear HM; (try clear wq); intro wq HM
  repeat (first | ((with_reducible apply t_move); exact rfl; exact rfl; (first | exact Ev.tmp rfl); (try simp only [Act.put, List.setIfInBounds_toArray, List.set_cons_zero, List.set_cons_succ])) | ((with_reducible apply t_assign); exact rfl; exact rfl; (first | exact Ev.tmp rfl); (try simp only [Act.put, List.setIfInBounds_toArray, List.set_cons_zero, List.set_cons_succ])) | ((with_reducible apply t_load HM); exact rfl; exact rfl; exact rfl; infer_instance; infer_instance; infer_instance; (try simp only [Act.put, List.setIfInBounds_toArray, List.set_cons_zero, List.set_cons_succ])) | ((with_reducible apply t_pure); exact rfl; exact rfl; (focus (intro wv; go_simp; (try (go_ints; (try go_simp))); (first | rfl))); (try simp only [Act.put, List.setIfInBounds_toArray, List.set_cons_zero, List.set_cons_succ])))
  refine t_nil ?_
  go_wp2_with (first | ((with_reducible apply sl_want); exact rfl) | ((with_reducible apply sl_load HM); exact rfl; infer_instance; infer_instance; (try simp only [Act.put, List.setIfInBounds_toArray, List.set_cons_zero, List.set_cons_succ])))
  refine wp_drawnM HM [cells g3 [.pointer (some ⟨gt, 0, none⟩)] 86, cells g4 (StE.cells ⟨7, (i : Int), xr, taken⟩) 92, cells gt [.pointer (some ⟨g, 0, none⟩), .pointer (some ⟨gr, 0, none⟩), .slice Ab bl.length cb, .slice (some ad) T.ans.length ca, .slice Af n cf, .slice At n ct] 90] [17] [(0, 0), (1, 0), (2, 1), (3, 1), (4, 0), (5, 0), (6, 1), (7, 1), (8, 0), (9, 1), (10, 0), (11, 1), (12, 2), (13, 2), (14, 2), (15, 1), (16, 1), (17, 3)] (by kernel_rfl) (by kernel_rfl) (by kernel_rfl) (by kernel_rfl) (fun _ _ d _ _ h => by cases d <;> exact h) ?_; clear HM; (try clear wq); intro wq HM
  repeat (first | ((with_reducible refine t_at (n := 12) rfl ?_); (with_reducible apply t_eff); exact rfl; exact rfl; intro K hK; (with_reducible apply ow_loadH HM); exact rfl; exact hld; infer_instance; refine hK _ _ _ HM inferInstance ?_; clear hK K; (try simp only [Act.put, List.setIfInBounds_toArray, List.set_cons_zero, List.set_cons_succ])) | ((with_reducible refine t_at (n := 14) rfl ?_); (with_reducible apply t_eff); exact rfl; exact rfl; intro K hK; have HMc : SL.Mod B w0 (qrow (.slice (some ad) T.ans.length ca) 42 4 T.ans.length (anss T.ans) :: _) _ := HM.pick (qrow (.slice (some ad) T.ans.length ca) 42 4 T.ans.length (anss T.ans)); have hnw : Reads _ (some ⟨g185, 0, none⟩) _ := (fun j u hj => ⟨_, rfl, cells_at (HM.has g185) j u hj⟩); (with_reducible apply ow_qappend HMc); (first | exact Ev.tmp rfl); (first | exact Ev.tmp rfl); infer_instance; exact hnw; rfl; infer_instance; infer_instance; omega; clear HM HMc hnw; (try clear wq); intro v186 wq HM; haveI := HM.qOne; refine hK _ _ _ HM inferInstance ?_; clear hK K; (try simp only [Act.put, List.setIfInBounds_toArray, List.set_cons_zero, List.set_cons_succ])) | ((with_reducible refine t_at (n := 17) rfl ?_); ((with_reducible apply t_last); exact rfl; exact rfl; intro K hK; (with_reducible apply ow_store HM); exact rfl; (first | exact Ev.tmp rfl); infer_instance; infer_instance; infer_instance; clear HM; (try clear wq); intro  wq HM; refine hK _ _ ?_; clear hK K; (try simp only [Act.put, List.setIfInBounds_toArray, List.set_cons_zero, List.set_cons_succ]))) | ((with_reducible apply t_load HM); exact rfl; exact rfl; exact rfl; infer_instance; infer_instance; infer_instance; (try simp only [Act.put, List.setIfInBounds_toArray, List.set_cons_zero, List.set_cons_succ])) | ((with_reducible apply t_pure); exact rfl; exact rfl; (focus (intro wv; go_simp; (try (go_ints; (try go_simp))); (first | rfl))); (try simp only [Act.put, List.setIfInBounds_toArray, List.set_cons_zero, List.set_cons_succ])) | ((with_reducible apply t_eff); exact rfl; exact rfl; intro K hK; (with_reducible apply ow_lit HM); (focus (go_simp; (try rfl); done)); clear HM; (try clear wq); intro g185 wq HM; refine hK _ _ _ HM inferInstance ?_; clear hK K; (try simp only [Act.put, List.setIfInBounds_toArray, List.set_cons_zero, List.set_cons_succ])))
  refine t_nil ?_
  go_wp2_with (first | ((with_reducible refine gate_dst (N := 217) rfl ?_); (with_reducible apply sl_append_lit HM); (first | exact Ev.const); infer_instance; (first | exact Ev.const); infer_instance; infer_instance; exact rfl; infer_instance; (first | (simp only [List.length_append, List.length_cons, List.length_nil] at *; omega)); clear HM; (try clear wq); intro v217 wq HM; (try simp only [Act.put, List.setIfInBounds_toArray, List.set_cons_zero, List.set_cons_succ]); haveI := HM.rowOne v217))
  refine bodyPost_end (results_none rfl _ _ _) rfl (show StepPost g gr gt T N _ now B w0 H _ _ from ⟨rfl, ?_⟩)
  rw [E.out]
  have e1 : anss T.ans ++ [.int .i64 y0, .int .i64 y1, .bool y2, .int .u64 y3] = anss (T.ans ++ [(y0, y1, y2, y3)]) := by simp [anss, List.flatMap_append]
  have e2 : T.ans.length + 1 = (T.ans ++ [(y0, y1, y2, y3)]).length := by simp
  rw [e1, e2] at HM
  have HM3 : SL.Mod B w0 (tlkL g gr gt S T.r (.slice Ab bl.length cb) v186 bl (T.ans ++ [(y0, y1, y2, y3)]) Af cf At ct n fl tk H) _ := HM.sub
  exact Mod.closeTlk HM3 H1.out H2.out (by have := H3.out; omega) H4.out H5.out rfl rfl
set_option maxHeartbeats 8000000 in
set_option maxRecDepth 100000 in
theorem step_alose (g gr gt : Nat) (T : TK) (N k m : Nat)  (xr : Rec) (taken : Bool) (now : Int) (ho : T.Ok k m) (hk : k ≤ 1000000) (hm : m ≤ 1000000) (hN : N ≤ 80000000) (hx : V.RecQ xr) (i : Nat) (b : An) (hi : i < T.ans.length) (hb : T.ans[i]? = some b) (B : Nat) (w0 w : World) (H : List As) (HM : SL.Mod B w0 (tlk g gr gt T N :: H) w) :
    Calls Try.prog 43 #[.pointer (some ⟨gt, 0, none⟩), .agg (StE.cells ⟨6, (i : Int), xr, taken⟩).toArray, .int .i64 now] w (StepPost g gr gt T N ⟨6, (i : Int), xr, taken⟩ now B w0 H) := by
  obtain ⟨S, vB, vA, bl, Af, cf, At, ct, n, fl, tk, ⟨h1, h2, h3, h4, h5⟩, HM1⟩ := Mod.openTlk HM
  clear HM
  obtain ⟨Ab, cb, rfl, hcb, hlb, -⟩ := (HM1.pick (qrow vB 61 3 bl.length (bts 9 bl))).qSlice
  obtain ⟨Aa, ca, rfl, hca, hla, -⟩ := (HM1.pick (qrow vA 42 4 T.ans.length (anss T.ans))).qSlice
  have HM := HM1
  have HO := Aside0.mk ho
  have H1 := Aside0.mk h1
  have H2 := Aside0.mk h2
  have H3 := Aside0.mk h3
  have H4 := Aside0.mk h4
  have H5 := Aside0.mk h5
  have HX := Aside0.mk hx
  have hnb : bl.length ≤ 1000000 := by have h6 := congrArg List.length h2; rw [List.length_map] at h6; have := ho.bl; omega
  have hna : T.ans.length ≤ 1000000 := by have := ho.al; omega
  have HSS : Aside0 (S.s = 9) := ⟨by rw [show S.s = S.p.s from rfl, h1]; exact ho.ss⟩
  have HK : Aside0 (S.p.Ok k) := ⟨by rw [h1]; exact ho.p⟩
  have HHL : Aside0 ((bts 9 bl).length = bl.length * 3) := ⟨hlb⟩
  have HLA : Aside0 ((anss T.ans).length = T.ans.length * 4) := ⟨hla⟩
  have hn2 : n ≤ 80000000 := by omega
  clear HM1 h1 h2 h3 h4 h5 hx hlb hla ho
  have hil : i < T.ans.length := hi
  obtain ⟨y0, y1, y2, y3⟩ := b
  obtain ⟨ad, rfl⟩ := (Mod.qReads (HM.pick (qrow (.slice Aa T.ans.length ca) 42 4 T.ans.length (anss T.ans)))).addr (by rw [HLA.out]; omega)
  have hld : Aside0 (∀ w', SL.Mod B w0 [qrow (.slice (some ad) T.ans.length ca) 42 4 T.ans.length (anss T.ans)] w' → Sem.run Try.prog (Instr.loadAt 42 (.pointer (some (ad.add (i * 4))))) w' = .ok (.agg (An.cells (y0, y1, y2, y3)).toArray) w') := ⟨fun w' h => q_load an_len h hb⟩
  have hd0 : decide ((0 : Int) ≤ (i : Int)) = true := decide_eq_true (by omega)
  have hd1 : decide (i < T.ans.length) = true := decide_eq_true hil
  have HBB := Aside0.mk hb
  have HAF := Aside0.mk (HO.out.af _ (List.mem_of_getElem? hb))
  simp only [An.cells] at hld
  clear hb hi
  have E : Aside0 (T.step ⟨6, (i : Int), xr, taken⟩ now = { T with ans := T.ans.eraseIdx i }) := ⟨by
    unfold TK.step
    dsimp only
    rw [if_neg (by omega), if_neg (by omega), if_neg (by omega), if_pos ⟨by omega, by omega, by omega, by omega⟩, Int.toNat_natCast, HBB.out]
    dsimp only
    rw [if_neg (by omega), if_neg (by omega)]⟩
  go_enter Try.func43, Try.ntmps43
  go_wp2_with (first | ((with_reducible refine gate_dst (N := 3) rfl ?_); (with_reducible apply sl_box HM); (first | exact Ev.tmp rfl); exact rfl; clear HM; (try clear wq); intro g3 wq HM; (try simp only [Act.put, List.setIfInBounds_toArray, List.set_cons_zero, List.set_cons_succ])) | ((with_reducible refine gate_dst (N := 4) rfl ?_); (with_reducible apply sl_box HM); (first | exact Ev.tmp rfl); exact rfl; clear HM; (try clear wq); intro g4 wq HM; (try simp only [Act.put, List.setIfInBounds_toArray, List.set_cons_zero, List.set_cons_succ])))
  refine wp_drawnS HM [] [(0, 1), (1, 0), (2, 1), (3, 1), (4, 1), (5, 0), (6, 1), (7, 1), (8, 1), (9, 1), (10, 0), (11, 1), (12, 1), (13, 1), (14, 1), (15, 0), (16, 0), (17, 1), (18, 1), (19, 0), (20, 1), (21, 1), (22, 1), (23, 1)] (by kernel_rfl) (by kernel_rfl) (by kernel_rfl) (by kernel_rfl) (fun _ _ d _ _ h => by cases d <;> exact h) ?_; clear HM; (try clear wq); intro wq HM
  repeat (first | ((with_reducible apply t_move); exact rfl; exact rfl; (first | exact Ev.tmp rfl); (try simp only [Act.put, List.setIfInBounds_toArray, List.set_cons_zero, List.set_cons_succ])) | ((with_reducible apply t_assign); exact rfl; exact rfl; (first | exact Ev.tmp rfl); (try simp only [Act.put, List.setIfInBounds_toArray, List.set_cons_zero, List.set_cons_succ])) | ((with_reducible apply t_load HM); exact rfl; exact rfl; exact rfl; infer_instance; infer_instance; infer_instance; (try simp only [Act.put, List.setIfInBounds_toArray, List.set_cons_zero, List.set_cons_succ])) | ((with_reducible apply t_skip); exact rfl; exact rfl; (try simp only [Act.put, List.setIfInBounds_toArray, List.set_cons_zero, List.set_cons_succ])) | ((with_reducible apply t_skip0 HM); exact rfl; exact rfl; infer_instance; (try simp only [Act.put, List.setIfInBounds_toArray, List.set_cons_zero, List.set_cons_succ])) | ((with_reducible apply t_pure); exact rfl; exact rfl; (focus (intro wv; go_simp; (try (go_ints; (try go_simp))); (first | rfl))); (try simp only [Act.put, List.setIfInBounds_toArray, List.set_cons_zero, List.set_cons_succ])))
  refine t_nil ?_
  go_wp2_with (first | ((with_reducible refine gate_dst (N := 217) rfl ?_); (with_reducible apply sl_append_lit HM); (first | exact Ev.const); infer_instance; (first | exact Ev.const); infer_instance; infer_instance; exact rfl; infer_instance; (first | (simp only [List.length_append, List.length_cons, List.length_nil] at *; omega)); clear HM; (try clear wq); intro v217 wq HM; (try simp only [Act.put, List.setIfInBounds_toArray, List.set_cons_zero, List.set_cons_succ]); haveI := HM.rowOne v217))
  refine wp_drawnS HM [] [(0, 1), (1, 0), (2, 1), (3, 1), (4, 1), (5, 0), (6, 1), (7, 1), (8, 1), (9, 1), (10, 0), (11, 1), (12, 1), (13, 1), (14, 1), (15, 0), (16, 0), (17, 1), (18, 1), (19, 0), (20, 1), (21, 1), (22, 1), (23, 1)] (by kernel_rfl) (by kernel_rfl) (by kernel_rfl) (by kernel_rfl) (fun _ _ d _ _ h => by cases d <;> exact h) ?_; clear HM; (try clear wq); intro wq HM
  repeat (first | ((with_reducible apply t_move); exact rfl; exact rfl; (first | exact Ev.tmp rfl); (try simp only [Act.put, List.setIfInBounds_toArray, List.set_cons_zero, List.set_cons_succ])) | ((with_reducible apply t_assign); exact rfl; exact rfl; (first | exact Ev.tmp rfl); (try simp only [Act.put, List.setIfInBounds_toArray, List.set_cons_zero, List.set_cons_succ])) | ((with_reducible apply t_load HM); exact rfl; exact rfl; exact rfl; infer_instance; infer_instance; infer_instance; (try simp only [Act.put, List.setIfInBounds_toArray, List.set_cons_zero, List.set_cons_succ])) | ((with_reducible apply t_pure); exact rfl; exact rfl; (focus (intro wv; go_simp; (try (go_ints; (try go_simp))); (first | rfl))); (try simp only [Act.put, List.setIfInBounds_toArray, List.set_cons_zero, List.set_cons_succ])))
  refine t_nil ?_
  go_wp2_with (first | ((with_reducible apply sl_want); exact rfl) | ((with_reducible apply sl_load HM); exact rfl; infer_instance; infer_instance; (try simp only [Act.put, List.setIfInBounds_toArray, List.set_cons_zero, List.set_cons_succ])))
  refine wp_drawnM HM [cells g3 [.pointer (some ⟨gt, 0, none⟩)] 86, cells g4 (StE.cells ⟨6, (i : Int), xr, taken⟩) 92, cells gt [.pointer (some ⟨g, 0, none⟩), .pointer (some ⟨gr, 0, none⟩), .slice Ab bl.length cb, .slice (some ad) T.ans.length ca, .slice Af n cf, .slice At n ct] 90, qrow (.slice (some ad) T.ans.length ca) 42 4 T.ans.length (anss T.ans)] [] [(0, 0), (1, 1), (2, 1), (3, 0), (4, 1), (5, 0), (6, 1), (7, 0), (8, 2), (9, 2)] (by kernel_rfl) (by kernel_rfl) (by kernel_rfl) (by kernel_rfl) (fun _ _ d _ _ h => by cases d <;> exact h) ?_; clear HM; (try clear wq); intro wq HM
  repeat (first | ((with_reducible apply t_load HM); exact rfl; exact rfl; exact rfl; infer_instance; infer_instance; infer_instance; (try simp only [Act.put, List.setIfInBounds_toArray, List.set_cons_zero, List.set_cons_succ])) | ((with_reducible apply t_loadH HM); exact rfl; exact rfl; exact rfl; assumption; infer_instance; infer_instance; (try simp only [Act.put, List.setIfInBounds_toArray, List.set_cons_zero, List.set_cons_succ])) | ((with_reducible apply t_pure); exact rfl; exact rfl; (focus (intro wv; go_simp; (try (go_ints; (try go_simp))); (first | rfl))); (try simp only [Act.put, List.setIfInBounds_toArray, List.set_cons_zero, List.set_cons_succ])) | ((with_reducible apply t_eff); exact rfl; exact rfl; intro K hK; (with_reducible apply ow_alloc HM); infer_instance; clear HM; (try clear wq); intro g11 wq HM; refine hK _ _ _ HM inferInstance ?_; clear hK K; (try simp only [Act.put, List.setIfInBounds_toArray, List.set_cons_zero, List.set_cons_succ])) | ((with_reducible apply t_eff); exact rfl; exact rfl; intro K hK; (with_reducible apply ow_store HM); exact rfl; (first | exact Ev.tmp rfl); infer_instance; infer_instance; infer_instance; clear HM; (try clear wq); intro  wq HM; refine hK _ _ _ HM inferInstance ?_; clear hK K; (try simp only [Act.put, List.setIfInBounds_toArray, List.set_cons_zero, List.set_cons_succ])))
  refine t_nil ?_
  go_wp2_with (first | ((with_reducible refine gate_dst (N := 217) rfl ?_); (with_reducible apply sl_append_lit HM); (first | exact Ev.const); infer_instance; (first | exact Ev.const); infer_instance; infer_instance; exact rfl; infer_instance; (first | (simp only [List.length_append, List.length_cons, List.length_nil] at *; omega)); clear HM; (try clear wq); intro v217 wq HM; (try simp only [Act.put, List.setIfInBounds_toArray, List.set_cons_zero, List.set_cons_succ]); haveI := HM.rowOne v217))
  refine wp_drawnM HM [cells g3 [.pointer (some ⟨gt, 0, none⟩)] 86, cells g4 (StE.cells ⟨6, (i : Int), xr, taken⟩) 92, cells gt [.pointer (some ⟨g, 0, none⟩), .pointer (some ⟨gr, 0, none⟩), .slice Ab bl.length cb, .slice (some ad) T.ans.length ca, .slice Af n cf, .slice At n ct] 90] [21] [(0, 0), (1, 0), (2, 1), (3, 1), (4, 0), (5, 1), (6, 0), (7, 1), (8, 0), (9, 1), (10, 0), (11, 1), (12, 1), (13, 0), (14, 1), (15, 0), (16, 1), (17, 1), (18, 2), (19, 1), (20, 1), (21, 3)] (by kernel_rfl) (by kernel_rfl) (by kernel_rfl) (by kernel_rfl) (fun _ _ d _ _ h => by cases d <;> exact h) ?_; clear HM; (try clear wq); intro wq HM
  repeat (first | ((with_reducible refine t_at (n := 17) rfl ?_); (with_reducible apply t_subL (sz := 4) ((i + 1))); exact rfl; exact rfl; (first | exact Ev.tmp rfl); (first | exact Ev.tmp rfl); exact Try.underlying87; (focus kernel_rfl); omega; (try simp only [Act.put, List.setIfInBounds_toArray, List.set_cons_zero, List.set_cons_succ])) | ((with_reducible refine t_at (n := 18) rfl ?_); (with_reducible apply t_eff); exact rfl; exact rfl; intro K hK; have HMc : SL.Mod B w0 (qrow (.slice (some ad) T.ans.length ca) 42 4 T.ans.length (anss T.ans) :: _) _ := HM.pick (qrow (.slice (some ad) T.ans.length ca) 42 4 T.ans.length (anss T.ans)); (with_reducible apply ow_cut HMc hil); (first | exact Ev.tmp rfl); (first | exact Ev.tmp rfl); infer_instance; infer_instance; omega; clear HM HMc; (try clear wq); intro v217 wq HM; haveI := HM.qOne; refine hK _ _ _ HM inferInstance ?_; clear hK K; (try simp only [Act.put, List.setIfInBounds_toArray, List.set_cons_zero, List.set_cons_succ])) | ((with_reducible refine t_at (n := 21) rfl ?_); ((with_reducible apply t_last); exact rfl; exact rfl; intro K hK; (with_reducible apply ow_store HM); exact rfl; (first | exact Ev.tmp rfl); infer_instance; infer_instance; infer_instance; clear HM; (try clear wq); intro  wq HM; refine hK _ _ ?_; clear hK K; (try simp only [Act.put, List.setIfInBounds_toArray, List.set_cons_zero, List.set_cons_succ]))) | ((with_reducible apply t_load HM); exact rfl; exact rfl; exact rfl; infer_instance; infer_instance; infer_instance; (try simp only [Act.put, List.setIfInBounds_toArray, List.set_cons_zero, List.set_cons_succ])) | ((with_reducible apply t_pure); exact rfl; exact rfl; (focus (intro wv; go_simp; (try (go_ints; (try go_simp))); (first | rfl | (rw [if_pos (by omega)]; done)))); (try simp only [Act.put, List.setIfInBounds_toArray, List.set_cons_zero, List.set_cons_succ])))
  refine t_nil ?_
  go_wp2_with (first | ((with_reducible apply sl_load HM); exact rfl; infer_instance; infer_instance; (try simp only [Act.put, List.setIfInBounds_toArray, List.set_cons_zero, List.set_cons_succ])))
  refine bodyPost_end (results_none rfl _ _ _) rfl (show StepPost g gr gt T N _ now B w0 H _ _ from ⟨rfl, ?_⟩)
  rw [E.out]
  have e1 : (anss T.ans).take (i * 4) ++ (anss T.ans).drop ((i + 1) * 4) = anss (T.ans.eraseIdx i) := (flat_erase an_len T.ans i hil).symm
  have e2 : T.ans.length - 1 = (T.ans.eraseIdx i).length := by rw [List.length_eraseIdx, if_pos hil]
  rw [e1, e2] at HM
  have HM3 : SL.Mod B w0 (tlkL g gr gt S T.r (.slice Ab bl.length cb) v217 bl (T.ans.eraseIdx i) Af cf At ct n fl tk H) _ := HM.sub
  exact Mod.closeTlk HM3 H1.out H2.out (by have := H3.out; omega) H4.out H5.out rfl rfl
set_option maxHeartbeats 8000000 in
set_option maxRecDepth 100000 in
theorem step_ans (g gr gt : Nat) (T : TK) (N k m : Nat)  (xr : Rec) (taken : Bool) (now : Int) (ho : T.Ok k m) (hk : k ≤ 1000000) (hm : m ≤ 1000000) (hN : N ≤ 80000000) (hx : V.RecQ xr) (i : Nat) (b : An) (hi : i < T.ans.length) (hb : T.ans[i]? = some b) (B : Nat) (w0 w : World) (H : List As) (HM : SL.Mod B w0 (tlk g gr gt T N :: H) w) :
    Calls Try.prog 43 #[.pointer (some ⟨gt, 0, none⟩), .agg (StE.cells ⟨5, (i : Int), xr, taken⟩).toArray, .int .i64 now] w (StepPost g gr gt T N ⟨5, (i : Int), xr, taken⟩ now B w0 H) := by
  obtain ⟨S, vB, vA, bl, Af, cf, At, ct, n, fl, tk, ⟨h1, h2, h3, h4, h5⟩, HM1⟩ := Mod.openTlk HM
  clear HM
  obtain ⟨Ab, cb, rfl, hcb, hlb, -⟩ := (HM1.pick (qrow vB 61 3 bl.length (bts 9 bl))).qSlice
  obtain ⟨Aa, ca, rfl, hca, hla, -⟩ := (HM1.pick (qrow vA 42 4 T.ans.length (anss T.ans))).qSlice
  have HM := HM1
  have HO := Aside0.mk ho
  have H1 := Aside0.mk h1
  have H2 := Aside0.mk h2
  have H3 := Aside0.mk h3
  have H4 := Aside0.mk h4
  have H5 := Aside0.mk h5
  have HX := Aside0.mk hx
  have hnb : bl.length ≤ 1000000 := by have h6 := congrArg List.length h2; rw [List.length_map] at h6; have := ho.bl; omega
  have hna : T.ans.length ≤ 1000000 := by have := ho.al; omega
  have HSS : Aside0 (S.s = 9) := ⟨by rw [show S.s = S.p.s from rfl, h1]; exact ho.ss⟩
  have HK : Aside0 (S.p.Ok k) := ⟨by rw [h1]; exact ho.p⟩
  have HHL : Aside0 ((bts 9 bl).length = bl.length * 3) := ⟨hlb⟩
  have HLA : Aside0 ((anss T.ans).length = T.ans.length * 4) := ⟨hla⟩
  have hn2 : n ≤ 80000000 := by omega
  clear HM1 h1 h2 h3 h4 h5 hx hlb hla ho
  have hil : i < T.ans.length := hi
  obtain ⟨y0, y1, y2, y3⟩ := b
  obtain ⟨ad, rfl⟩ := (Mod.qReads (HM.pick (qrow (.slice Aa T.ans.length ca) 42 4 T.ans.length (anss T.ans)))).addr (by rw [HLA.out]; omega)
  have hld : Aside0 (∀ w', SL.Mod B w0 [qrow (.slice (some ad) T.ans.length ca) 42 4 T.ans.length (anss T.ans)] w' → Sem.run Try.prog (Instr.loadAt 42 (.pointer (some (ad.add (i * 4))))) w' = .ok (.agg (An.cells (y0, y1, y2, y3)).toArray) w') := ⟨fun w' h => q_load an_len h hb⟩
  have hd0 : decide ((0 : Int) ≤ (i : Int)) = true := decide_eq_true (by omega)
  have hd1 : decide (i < T.ans.length) = true := decide_eq_true hil
  have HBB := Aside0.mk hb
  have HAF := Aside0.mk (HO.out.af _ (List.mem_of_getElem? hb))
  simp only [An.cells] at hld
  clear hb hi
  have E : Aside0 (T.step ⟨5, (i : Int), xr, taken⟩ now = { T with P := (T.P.take y0 y1 y2 y3 now).1, ans := T.ans.eraseIdx i }) := ⟨by
    unfold TK.step
    dsimp only
    rw [if_neg (by omega), if_neg (by omega), if_neg (by omega), if_pos ⟨by omega, by omega, by omega, by omega⟩, Int.toNat_natCast, HBB.out]
    dsimp only
    rw [if_neg (by omega), if_pos rfl]⟩
  go_enter Try.func43, Try.ntmps43
  go_wp2_with (first | ((with_reducible refine gate_dst (N := 3) rfl ?_); (with_reducible apply sl_box HM); (first | exact Ev.tmp rfl); exact rfl; clear HM; (try clear wq); intro g3 wq HM; (try simp only [Act.put, List.setIfInBounds_toArray, List.set_cons_zero, List.set_cons_succ])) | ((with_reducible refine gate_dst (N := 4) rfl ?_); (with_reducible apply sl_box HM); (first | exact Ev.tmp rfl); exact rfl; clear HM; (try clear wq); intro g4 wq HM; (try simp only [Act.put, List.setIfInBounds_toArray, List.set_cons_zero, List.set_cons_succ])))
  refine wp_drawnS HM [] [(0, 1), (1, 0), (2, 1), (3, 1), (4, 1), (5, 0), (6, 1), (7, 1), (8, 1), (9, 1), (10, 0), (11, 1), (12, 1), (13, 1), (14, 1), (15, 0), (16, 0), (17, 1), (18, 1), (19, 0), (20, 1), (21, 1), (22, 1), (23, 1)] (by kernel_rfl) (by kernel_rfl) (by kernel_rfl) (by kernel_rfl) (fun _ _ d _ _ h => by cases d <;> exact h) ?_; clear HM; (try clear wq); intro wq HM
  repeat (first | ((with_reducible apply t_move); exact rfl; exact rfl; (first | exact Ev.tmp rfl); (try simp only [Act.put, List.setIfInBounds_toArray, List.set_cons_zero, List.set_cons_succ])) | ((with_reducible apply t_assign); exact rfl; exact rfl; (first | exact Ev.tmp rfl); (try simp only [Act.put, List.setIfInBounds_toArray, List.set_cons_zero, List.set_cons_succ])) | ((with_reducible apply t_load HM); exact rfl; exact rfl; exact rfl; infer_instance; infer_instance; infer_instance; (try simp only [Act.put, List.setIfInBounds_toArray, List.set_cons_zero, List.set_cons_succ])) | ((with_reducible apply t_skip); exact rfl; exact rfl; (try simp only [Act.put, List.setIfInBounds_toArray, List.set_cons_zero, List.set_cons_succ])) | ((with_reducible apply t_skip0 HM); exact rfl; exact rfl; infer_instance; (try simp only [Act.put, List.setIfInBounds_toArray, List.set_cons_zero, List.set_cons_succ])) | ((with_reducible apply t_pure); exact rfl; exact rfl; (focus (intro wv; go_simp; (try (go_ints; (try go_simp))); (first | rfl))); (try simp only [Act.put, List.setIfInBounds_toArray, List.set_cons_zero, List.set_cons_succ])))
  refine t_nil ?_
  go_wp2_with (first | ((with_reducible refine gate_dst (N := 217) rfl ?_); (with_reducible apply sl_append_lit HM); (first | exact Ev.const); infer_instance; (first | exact Ev.const); infer_instance; infer_instance; exact rfl; infer_instance; (first | (simp only [List.length_append, List.length_cons, List.length_nil] at *; omega)); clear HM; (try clear wq); intro v217 wq HM; (try simp only [Act.put, List.setIfInBounds_toArray, List.set_cons_zero, List.set_cons_succ]); haveI := HM.rowOne v217))
  refine wp_drawnS HM [] [(0, 1), (1, 0), (2, 1), (3, 1), (4, 1), (5, 0), (6, 1), (7, 1), (8, 1), (9, 1), (10, 0), (11, 1), (12, 1), (13, 1), (14, 1), (15, 0), (16, 0), (17, 1), (18, 1), (19, 0), (20, 1), (21, 1), (22, 1), (23, 1)] (by kernel_rfl) (by kernel_rfl) (by kernel_rfl) (by kernel_rfl) (fun _ _ d _ _ h => by cases d <;> exact h) ?_; clear HM; (try clear wq); intro wq HM
  repeat (first | ((with_reducible apply t_move); exact rfl; exact rfl; (first | exact Ev.tmp rfl); (try simp only [Act.put, List.setIfInBounds_toArray, List.set_cons_zero, List.set_cons_succ])) | ((with_reducible apply t_assign); exact rfl; exact rfl; (first | exact Ev.tmp rfl); (try simp only [Act.put, List.setIfInBounds_toArray, List.set_cons_zero, List.set_cons_succ])) | ((with_reducible apply t_load HM); exact rfl; exact rfl; exact rfl; infer_instance; infer_instance; infer_instance; (try simp only [Act.put, List.setIfInBounds_toArray, List.set_cons_zero, List.set_cons_succ])) | ((with_reducible apply t_pure); exact rfl; exact rfl; (focus (intro wv; go_simp; (try (go_ints; (try go_simp))); (first | rfl))); (try simp only [Act.put, List.setIfInBounds_toArray, List.set_cons_zero, List.set_cons_succ])))
  refine t_nil ?_
  go_wp2_with (first | ((with_reducible apply sl_want); exact rfl) | ((with_reducible apply sl_load HM); exact rfl; infer_instance; infer_instance; (try simp only [Act.put, List.setIfInBounds_toArray, List.set_cons_zero, List.set_cons_succ])))
  refine wp_drawnM HM [cells g3 [.pointer (some ⟨gt, 0, none⟩)] 86, cells g4 (StE.cells ⟨5, (i : Int), xr, taken⟩) 92, cells gt [.pointer (some ⟨g, 0, none⟩), .pointer (some ⟨gr, 0, none⟩), .slice Ab bl.length cb, .slice (some ad) T.ans.length ca, .slice Af n cf, .slice At n ct] 90, qrow (.slice (some ad) T.ans.length ca) 42 4 T.ans.length (anss T.ans)] [] [(0, 0), (1, 1), (2, 1), (3, 0), (4, 1), (5, 0), (6, 1), (7, 0), (8, 2), (9, 2)] (by kernel_rfl) (by kernel_rfl) (by kernel_rfl) (by kernel_rfl) (fun _ _ d _ _ h => by cases d <;> exact h) ?_; clear HM; (try clear wq); intro wq HM
  repeat (first | ((with_reducible apply t_load HM); exact rfl; exact rfl; exact rfl; infer_instance; infer_instance; infer_instance; (try simp only [Act.put, List.setIfInBounds_toArray, List.set_cons_zero, List.set_cons_succ])) | ((with_reducible apply t_loadH HM); exact rfl; exact rfl; exact rfl; assumption; infer_instance; infer_instance; (try simp only [Act.put, List.setIfInBounds_toArray, List.set_cons_zero, List.set_cons_succ])) | ((with_reducible apply t_pure); exact rfl; exact rfl; (focus (intro wv; go_simp; (try (go_ints; (try go_simp))); (first | rfl))); (try simp only [Act.put, List.setIfInBounds_toArray, List.set_cons_zero, List.set_cons_succ])) | ((with_reducible apply t_eff); exact rfl; exact rfl; intro K hK; (with_reducible apply ow_alloc HM); infer_instance; clear HM; (try clear wq); intro g11 wq HM; refine hK _ _ _ HM inferInstance ?_; clear hK K; (try simp only [Act.put, List.setIfInBounds_toArray, List.set_cons_zero, List.set_cons_succ])) | ((with_reducible apply t_eff); exact rfl; exact rfl; intro K hK; (with_reducible apply ow_store HM); exact rfl; (first | exact Ev.tmp rfl); infer_instance; infer_instance; infer_instance; clear HM; (try clear wq); intro  wq HM; refine hK _ _ _ HM inferInstance ?_; clear hK K; (try simp only [Act.put, List.setIfInBounds_toArray, List.set_cons_zero, List.set_cons_succ])))
  refine t_nil ?_
  go_wp2_with (first | ((with_reducible refine gate_dst (N := 217) rfl ?_); (with_reducible apply sl_append_lit HM); (first | exact Ev.const); infer_instance; (first | exact Ev.const); infer_instance; infer_instance; exact rfl; infer_instance; (first | (simp only [List.length_append, List.length_cons, List.length_nil] at *; omega)); clear HM; (try clear wq); intro v217 wq HM; (try simp only [Act.put, List.setIfInBounds_toArray, List.set_cons_zero, List.set_cons_succ]); haveI := HM.rowOne v217))
  refine wp_drawnM HM [cells g3 [.pointer (some ⟨gt, 0, none⟩)] 86, cells g4 (StE.cells ⟨5, (i : Int), xr, taken⟩) 92, cells gt [.pointer (some ⟨g, 0, none⟩), .pointer (some ⟨gr, 0, none⟩), .slice Ab bl.length cb, .slice (some ad) T.ans.length ca, .slice Af n cf, .slice At n ct] 90] [21] [(0, 0), (1, 0), (2, 1), (3, 1), (4, 0), (5, 1), (6, 0), (7, 1), (8, 0), (9, 1), (10, 0), (11, 1), (12, 1), (13, 0), (14, 1), (15, 0), (16, 1), (17, 1), (18, 2), (19, 1), (20, 1), (21, 3)] (by kernel_rfl) (by kernel_rfl) (by kernel_rfl) (by kernel_rfl) (fun _ _ d _ _ h => by cases d <;> exact h) ?_; clear HM; (try clear wq); intro wq HM
  repeat (first | ((with_reducible refine t_at (n := 17) rfl ?_); (with_reducible apply t_subL (sz := 4) ((i + 1))); exact rfl; exact rfl; (first | exact Ev.tmp rfl); (first | exact Ev.tmp rfl); exact Try.underlying87; (focus kernel_rfl); omega; (try simp only [Act.put, List.setIfInBounds_toArray, List.set_cons_zero, List.set_cons_succ])) | ((with_reducible refine t_at (n := 18) rfl ?_); (with_reducible apply t_eff); exact rfl; exact rfl; intro K hK; have HMc : SL.Mod B w0 (qrow (.slice (some ad) T.ans.length ca) 42 4 T.ans.length (anss T.ans) :: _) _ := HM.pick (qrow (.slice (some ad) T.ans.length ca) 42 4 T.ans.length (anss T.ans)); (with_reducible apply ow_cut HMc hil); (first | exact Ev.tmp rfl); (first | exact Ev.tmp rfl); infer_instance; infer_instance; omega; clear HM HMc; (try clear wq); intro v217 wq HM; haveI := HM.qOne; refine hK _ _ _ HM inferInstance ?_; clear hK K; (try simp only [Act.put, List.setIfInBounds_toArray, List.set_cons_zero, List.set_cons_succ])) | ((with_reducible refine t_at (n := 21) rfl ?_); ((with_reducible apply t_last); exact rfl; exact rfl; intro K hK; (with_reducible apply ow_store HM); exact rfl; (first | exact Ev.tmp rfl); infer_instance; infer_instance; infer_instance; clear HM; (try clear wq); intro  wq HM; refine hK _ _ ?_; clear hK K; (try simp only [Act.put, List.setIfInBounds_toArray, List.set_cons_zero, List.set_cons_succ]))) | ((with_reducible apply t_load HM); exact rfl; exact rfl; exact rfl; infer_instance; infer_instance; infer_instance; (try simp only [Act.put, List.setIfInBounds_toArray, List.set_cons_zero, List.set_cons_succ])) | ((with_reducible apply t_pure); exact rfl; exact rfl; (focus (intro wv; go_simp; (try (go_ints; (try go_simp))); (first | rfl | (rw [if_pos (by omega)]; done)))); (try simp only [Act.put, List.setIfInBounds_toArray, List.set_cons_zero, List.set_cons_succ])))
  refine t_nil ?_
  go_wp2_with (first | ((with_reducible apply sl_load HM); exact rfl; infer_instance; infer_instance; (try simp only [Act.put, List.setIfInBounds_toArray, List.set_cons_zero, List.set_cons_succ])))
  refine wp_drawnM HM [cells g3 [.pointer (some ⟨gt, 0, none⟩)] 86, cells g4 (StE.cells ⟨5, (i : Int), xr, taken⟩) 92, cells gt [.pointer (some ⟨g, 0, none⟩), .pointer (some ⟨gr, 0, none⟩), .slice Ab bl.length cb, v217, .slice Af n cf, .slice At n ct] 90, cells g11 [.int .i64 y0, .int .i64 y1, .bool y2, .int .u64 y3] 42] [] [(0, 0), (1, 1), (2, 1), (3, 0), (4, 0), (5, 1), (6, 2)] (by kernel_rfl) (by kernel_rfl) (by kernel_rfl) (by kernel_rfl) (fun _ _ d _ _ h => by cases d <;> exact h) ?_; clear HM; (try clear wq); intro wq HM
  repeat (first | ((with_reducible refine t_at (n := 6) rfl ?_); (with_reducible apply t_eff); exact rfl; exact rfl; intro K hK; go_simp; go_at_call 36; have HMq : SL.Mod B w0 (snd g S :: _) _ := HM.pick (snd g S); refine (TakeK (S := S) (k := k) y0 y1 y3 now y2 HK.out HAF.out HMq).mono ?_; clear HMq; rintro e wq ⟨S1, rfl, h1, HM1⟩; clear HM; have HM := HM1; clear HM1; have HS1 := Aside0.mk h1; clear h1; refine hK _ _ _ HM inferInstance ?_; clear hK K; (try simp only [Act.put, List.setIfInBounds_toArray, List.set_cons_zero, List.set_cons_succ])) | ((with_reducible apply t_move); exact rfl; exact rfl; (first | exact Ev.tmp rfl); (try simp only [Act.put, List.setIfInBounds_toArray, List.set_cons_zero, List.set_cons_succ])) | ((with_reducible apply t_load HM); exact rfl; exact rfl; exact rfl; infer_instance; infer_instance; infer_instance; (try simp only [Act.put, List.setIfInBounds_toArray, List.set_cons_zero, List.set_cons_succ])) | ((with_reducible apply t_pure); exact rfl; exact rfl; (focus (intro wv; go_simp; (try (go_ints; (try go_simp))); (first | rfl))); (try simp only [Act.put, List.setIfInBounds_toArray, List.set_cons_zero, List.set_cons_succ])))
  refine t_nil ?_
  go_wp2_with (first | ((with_reducible refine gate_dst (N := 217) rfl ?_); (with_reducible apply sl_append_lit HM); (first | exact Ev.const); infer_instance; (first | exact Ev.const); infer_instance; infer_instance; exact rfl; infer_instance; (first | (simp only [List.length_append, List.length_cons, List.length_nil] at *; omega)); clear HM; (try clear wq); intro v217 wq HM; (try simp only [Act.put, List.setIfInBounds_toArray, List.set_cons_zero, List.set_cons_succ]); haveI := HM.rowOne v217))
  refine bodyPost_end (results_none rfl _ _ _) rfl (show StepPost g gr gt T N _ now B w0 H _ _ from ⟨rfl, ?_⟩)
  rw [E.out]
  have e1 : (anss T.ans).take (i * 4) ++ (anss T.ans).drop ((i + 1) * 4) = anss (T.ans.eraseIdx i) := (flat_erase an_len T.ans i hil).symm
  have e2 : T.ans.length - 1 = (T.ans.eraseIdx i).length := by rw [List.length_eraseIdx, if_pos hil]
  rw [e1, e2] at HM
  have HM3 : SL.Mod B w0 (tlkL g gr gt S1 T.r (.slice Ab bl.length cb) v217 bl (T.ans.eraseIdx i) Af cf At ct n fl tk H) _ := HM.sub
  exact Mod.closeTlk HM3 (by rw [HS1.out, H1.out]) H2.out (by have := H3.out; omega) H4.out H5.out rfl rfl
end Go.Proofs.Ytghfoooldcbdnaa
set_option linter.unusedVariables false
set_option linter.unusedSimpArgs false
namespace Go.Proofs.Ytghfoooldcbdnaa
open Go.RowKit Go.Proofs.Ytghfoooldcbdnaa.SL Go.Proofs.YtghfoooldcbdnaaW.PrintWords Go.Proofs.YtghfoooldcbdnaaW.PrintLast
/-- A talk in the midst of a step: what was taken is of whatever kind. -/
def tokA (gt : Nat) (x0 x1 x2 x3 : Value) (N : Nat) : As where
  sat F w := ∃ (Af : Option Addr) (cf : Nat) (At : Option Addr) (ct n : Nat) (fl : List Fl) (tk : List Bool), (n ≤ N ∧ fl.length = n ∧ tk.length = n) ∧ Sat (tokL gt x0 x1 x2 x3 Af cf At ct n fl tk []) F w
  loc h hk := by
    obtain ⟨Af, cf, At, ct, n, fl, tk, h1, h⟩ := h
    exact ⟨Af, cf, At, ct, n, fl, tk, h1, Sat.loc h hk⟩
  up h hk := by
    obtain ⟨Af, cf, At, ct, n, fl, tk, h1, h⟩ := h
    exact ⟨Af, cf, At, ct, n, fl, tk, h1, Sat.up h hk⟩
theorem Mod.openTok {B : Nat} {w0 w : World} {H : List As} {gt N : Nat} {x0 x1 x2 x3 : Value} (h : SL.Mod B w0 (tokA gt x0 x1 x2 x3 N :: H) w) : ∃ (Af : Option Addr) (cf : Nat) (At : Option Addr) (ct n : Nat) (fl : List Fl) (tk : List Bool), (n ≤ N ∧ fl.length = n ∧ tk.length = n) ∧ SL.Mod B w0 (tokL gt x0 x1 x2 x3 Af cf At ct n fl tk H) w := by
  obtain ⟨F1, h1, ⟨Af, cf, At, ct, n, fl, tk, h2, h3⟩, h4⟩ := h.sat
  refine ⟨Af, cf, At, ct, n, fl, tk, h2, h.below, h.low, ?_⟩
  exact (Sat.append h3 h4 (fun b hb hc => hc.2 hb)).up (fun b hb => hb.elim (h1 b) (fun hc => hc.1))
theorem Mod.closeTok {B : Nat} {w0 w : World} {H : List As} {gt N : Nat} {x0 x1 x2 x3 : Value} {Af : Option Addr} {cf : Nat} {At : Option Addr} {ct n : Nat} {fl : List Fl} {tk : List Bool} (h : SL.Mod B w0 (tokL gt x0 x1 x2 x3 Af cf At ct n fl tk H) w) (h1 : n ≤ N) (h2 : fl.length = n) (h3 : tk.length = n) : SL.Mod B w0 (tokA gt x0 x1 x2 x3 N :: H) w := by
  have hh : Sat (tokL gt x0 x1 x2 x3 Af cf At ct n fl tk [] ++ H) (fun b => B ≤ b ∧ b < w.heap.size) w := h.sat
  obtain ⟨F1, F2, k1, k2, k3, k4, k5⟩ := Sat.part hh
  exact ⟨h.below, h.low, F1, k3, ⟨Af, cf, At, ct, n, fl, tk, ⟨h1, h2, h3⟩, k1⟩, k2.up (fun b hb => ⟨k4 b hb, fun hc => k5 b hc hb⟩)⟩
/-- The call of Take within a step, by what it turns. -/
theorem stepTake (g3 g4 gt gr : Nat) (x0 x1 x2 x3 : Value) (x : StE) (N : Nat) (hN : N ≤ 90000000) (r : RS) (hr : r.Ok) (b : Int × List Rec) (hb : batchOk 9 b.1 b.2 = true) (yn : Int) (yl : List Rec) (yA : Option Addr) (yc : Nat) (hy : (yn, yl) = b) (o : Out) (ho : r.take 9 b.1 b.2 (bitsUp (fun _ => x.taken) b.2.length) = o) (B : Nat) (w0 w : World) (H : List As) (hrd : ∀ w, SL.Mod B w0 H w → Reads w yA (recs yl)) (HM : SL.Mod B w0 (cells gr r.cells 127 :: cells g3 [.pointer (some ⟨gt, 0, none⟩)] 86 :: cells g4 x.cells 92 :: tokA gt x0 x1 x2 x3 N :: H) w) :
    Calls Try.prog 28 #[.pointer (some ⟨gr, 0, none⟩), .agg #[.int .i64 9, .int .i64 yn, .slice yA yl.length yc], .func (.func 80) #[] #[.pointer (some ⟨g3, 0, none⟩), .pointer (some ⟨g4, 0, none⟩)]] w fun e w' => e = .returned (.tuple #[.agg #[.int .i64 o.s, .int .i64 o.n, .bool o.gap, .int .u64 o.ref], .bool o.is]) ∧ SL.Mod B w0 (cells gr o.r.cells 127 :: cells g3 [.pointer (some ⟨gt, 0, none⟩)] 86 :: cells g4 x.cells 92 :: tokA gt x0 x1 x2 x3 (N + 64) :: H) w' := by
  subst hy ho
  dsimp only at hb ⊢
  have HM0 : SL.Mod B w0 (tokA gt x0 x1 x2 x3 N :: cells gr r.cells 127 :: cells g3 [.pointer (some ⟨gt, 0, none⟩)] 86 :: cells g4 x.cells 92 :: H) w := HM.sub
  obtain ⟨Af, cf, At, ct, n, fl, tk, ⟨h1, h2, h3⟩, HM1⟩ := Mod.openTok HM0
  have HM2 : SL.Mod B w0 (cells gr r.cells 127 :: ((cells g3 [.pointer (some ⟨gt, 0, none⟩)] 86 :: cells g4 x.cells 92 :: tokL gt x0 x1 x2 x3 Af cf At ct n fl tk []) ++ H)) w := by
    have HM3 : SL.Mod B w0 (cells gr r.cells 127 :: cells g3 [.pointer (some ⟨gt, 0, none⟩)] 86 :: cells g4 x.cells 92 :: tokL gt x0 x1 x2 x3 Af cf At ct n fl tk H) w := HM1.sub
    exact HM3
  have hl := (V.bfacts hb).2.2.2.1
  refine (Take_calls B w0 80 _ (TokJ g3 g4 gt x0 x1 x2 x3 x N) _ (tok80_spec B w0 g3 g4 gt x0 x1 x2 x3 x N hN) gr r hr 9 yn yl yA yc (fun r hr => by
    have := ok_size (List.all_eq_true.1 (V.bfacts hb).2.2.2.2 r hr)
    omega) (Nat.le_trans hl (by decide)) w H _ ⟨Af, cf, At, ct, n, fl, tk, by simp; omega, h2, h3, rfl⟩ hrd (Mod.tailcomm HM2)).mono ?_
  rintro e w' ⟨rfl, G', ⟨Af', cf', At', ct', n', fl', tk', h4, h5, h6, rfl⟩, HM4⟩
  refine ⟨rfl, ?_⟩
  have HM5 := Mod.tailcomm HM4
  have HM6 : SL.Mod B w0 (cells gr (r.take 9 yn yl (bitsUp (fun _ => x.taken) yl.length)).r.cells 127 :: cells g3 [.pointer (some ⟨gt, 0, none⟩)] 86 :: cells g4 x.cells 92 :: tokL gt x0 x1 x2 x3 Af' cf' At' ct' n' fl' tk' H) w' := HM5
  have HM7 : SL.Mod B w0 (tokL gt x0 x1 x2 x3 Af' cf' At' ct' n' fl' tk' (cells gr (r.take 9 yn yl (bitsUp (fun _ => x.taken) yl.length)).r.cells 127 :: cells g3 [.pointer (some ⟨gt, 0, none⟩)] 86 :: cells g4 x.cells 92 :: H)) w' := HM6.sub
  have hal : (asks (r.take 9 yn yl (bitsUp (fun _ => x.taken) yl.length)).ap yl).length ≤ 64 := by
    cases (r.take 9 yn yl (bitsUp (fun _ => x.taken) yl.length)).ap with
    | true => rw [asks_yes]; exact hl
    | false => rw [asks_no]; simp
  exact (Mod.closeTok (N := N + 64) HM7 (by omega) h5 h6).sub
/-- Of a talk's own block: its sender, its receiver. -/
def gtA (gt : Nat) (x0 x1 : Value) : As where
  sat F w := ∃ (x2 x3 : Value) (N : Nat), (tokA gt x0 x1 x2 x3 N).sat F w
  loc h hk := by
    obtain ⟨x2, x3, N, h⟩ := h
    exact ⟨x2, x3, N, As.loc _ h hk⟩
  up h hk := by
    obtain ⟨x2, x3, N, h⟩ := h
    exact ⟨x2, x3, N, As.up _ h hk⟩
instance gtPick {gt N : Nat} {x0 x1 x2 x3 : Value} {H : List As} : Pick (tokA gt x0 x1 x2 x3 N :: H) (gtA gt x0 x1) H := ⟨fun ⟨F1, h1, h2, h3⟩ => ⟨F1, h1, ⟨x2, x3, N, h2⟩, h3⟩⟩
set_option maxRecDepth 100000 in
theorem gtA_load {B : Nat} {w0 w : World} {H : List As} {gt g gr : Nat} (h : SL.Mod B w0 (gtA gt (.pointer (some ⟨g, 0, none⟩)) (.pointer (some ⟨gr, 0, none⟩)) :: H) w) : Sem.run Try.prog (Instr.loadAt 23 (.pointer (some ⟨gt, 1, none⟩))) w = .ok (.pointer (some ⟨gr, 0, none⟩)) w := by
  obtain ⟨F1, h1, ⟨x2, x3, N, h2⟩, h3⟩ := h.sat
  have h4 : SL.Mod B w0 (tokA gt (.pointer (some ⟨g, 0, none⟩)) (.pointer (some ⟨gr, 0, none⟩)) x2 x3 N :: H) w := ⟨h.below, h.low, F1, h1, h2, h3⟩
  obtain ⟨Af, cf, At, ct, n, fl, tk, _, h5⟩ := Mod.openTok h4
  have hi : LoadAs Try.prog 23 [.pointer (some ⟨g, 0, none⟩), .pointer (some ⟨gr, 0, none⟩), x2, x3, .slice Af n cf, .slice At n ct] 1 (.pointer (some ⟨gr, 0, none⟩)) := inferInstance
  exact hi.run (h5.has gt)
theorem modPick4 {B : Nat} {w0 w : World} {H R1 R2 R3 R4 : List As} (h : SL.Mod B w0 H w) (A C D E : As) [s1 : Pick H A R1] [s2 : Pick R1 C R2] [s3 : Pick R2 D R3] [s4 : Pick R3 E R4] : SL.Mod B w0 (A :: C :: D :: E :: R4) w := by
  obtain ⟨F1, h1, h2, h3⟩ := s1.sat h.sat
  obtain ⟨F2, k1, k2, k3⟩ := s2.sat h3
  obtain ⟨F3, l1, l2, l3⟩ := s3.sat k3
  exact ⟨h.below, h.low, F1, h1, h2, F2, k1, k2, F3, l1, l2, s4.sat l3⟩
end Go.Proofs.Ytghfoooldcbdnaa
