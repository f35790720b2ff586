/-
  PART 14 OF THE PROOF OF SyncinEnds: laid together from the proof's own texts: Stp2, Stp3.
-/
import Derived.Test.YtghfoooldcbdnaaEnd12
set_option linter.unusedVariables false
set_option linter.unusedSimpArgs false
namespace Go.Proofs.Ytghfoooldcbdnaa
open Go.RowKit Go.Proofs.Ytghfoooldcbdnaa.SL Go.Proofs.YtghfoooldcbdnaaW.PrintWords Go.Proofs.YtghfoooldcbdnaaW.PrintLast
set_option maxHeartbeats 8000000 in
set_option maxRecDepth 100000 in
theorem step_add (g gr gt : Nat) (T : TK) (N k m : Nat) (xn : Int) (xr : Rec) (taken : Bool) (now : Int) (ho : T.Ok k m) (hk : k ≤ 1000000) (hm : m ≤ 1000000) (hN : N ≤ 80000000) (hx : V.RecQ xr)  (B : Nat) (w0 w : World) (H : List As) (HM : SL.Mod B w0 (tlk g gr gt T N :: H) w) :
    Calls Try.prog 43 #[.pointer (some ⟨gt, 0, none⟩), .agg (StE.cells ⟨0, xn, xr, taken⟩).toArray, .int .i64 now] w (StepPost g gr gt T N ⟨0, xn, xr, taken⟩ now B w0 H) := by
  obtain ⟨S, vB, vA, bl, Af, cf, At, ct, n, fl, tk, ⟨h1, h2, h3, h4, h5⟩, HM1⟩ := Mod.openTlk HM
  clear HM
  obtain ⟨Ab, cb, rfl, hcb, hlb, -⟩ := (HM1.pick (qrow vB 61 3 bl.length (bts 9 bl))).qSlice
  obtain ⟨Aa, ca, rfl, hca, hla, -⟩ := (HM1.pick (qrow vA 42 4 T.ans.length (anss T.ans))).qSlice
  have HM := HM1
  have HO := Aside0.mk ho
  have H1 := Aside0.mk h1
  have H2 := Aside0.mk h2
  have H3 := Aside0.mk h3
  have H4 := Aside0.mk h4
  have H5 := Aside0.mk h5
  have HX := Aside0.mk hx
  have hnb : bl.length ≤ 1000000 := by have h6 := congrArg List.length h2; rw [List.length_map] at h6; have := ho.bl; omega
  have hna : T.ans.length ≤ 1000000 := by have := ho.al; omega
  have HSS : Aside0 (S.s = 9) := ⟨by rw [show S.s = S.p.s from rfl, h1]; exact ho.ss⟩
  have HK : Aside0 (S.p.Ok k) := ⟨by rw [h1]; exact ho.p⟩
  have HHL : Aside0 ((bts 9 bl).length = bl.length * 3) := ⟨hlb⟩
  have HLA : Aside0 ((anss T.ans).length = T.ans.length * 4) := ⟨hla⟩
  have hn2 : n ≤ 80000000 := by omega
  clear HM1 h1 h2 h3 h4 h5 hx hlb hla ho
  skip
  have E : Aside0 (T.step ⟨0, xn, xr, taken⟩ now = { T with P := (T.P.add xr).1 }) := ⟨by
    unfold TK.step
    dsimp only
    rw [if_pos rfl]⟩
  go_enter Try.func43, Try.ntmps43
  go_wp2_with (first | ((with_reducible refine gate_dst (N := 3) rfl ?_); (with_reducible apply sl_box HM); (first | exact Ev.tmp rfl); exact rfl; clear HM; (try clear wq); intro g3 wq HM; (try simp only [Act.put, List.setIfInBounds_toArray, List.set_cons_zero, List.set_cons_succ])) | ((with_reducible refine gate_dst (N := 4) rfl ?_); (with_reducible apply sl_box HM); (first | exact Ev.tmp rfl); exact rfl; clear HM; (try clear wq); intro g4 wq HM; (try simp only [Act.put, List.setIfInBounds_toArray, List.set_cons_zero, List.set_cons_succ])))
  refine wp_drawnS HM [] [(0, 1), (1, 0), (2, 1), (3, 1), (4, 1), (5, 0), (6, 1), (7, 1), (8, 1), (9, 1), (10, 0), (11, 1), (12, 1), (13, 1), (14, 1), (15, 0), (16, 0), (17, 1), (18, 1), (19, 0), (20, 1), (21, 1), (22, 1), (23, 1)] (by kernel_rfl) (by kernel_rfl) (by kernel_rfl) (by kernel_rfl) (fun _ _ d _ _ h => by cases d <;> exact h) ?_; clear HM; (try clear wq); intro wq HM
  repeat (first | ((with_reducible apply t_move); exact rfl; exact rfl; (first | exact Ev.tmp rfl); (try simp only [Act.put, List.setIfInBounds_toArray, List.set_cons_zero, List.set_cons_succ])) | ((with_reducible apply t_assign); exact rfl; exact rfl; (first | exact Ev.tmp rfl); (try simp only [Act.put, List.setIfInBounds_toArray, List.set_cons_zero, List.set_cons_succ])) | ((with_reducible apply t_load HM); exact rfl; exact rfl; exact rfl; infer_instance; infer_instance; infer_instance; (try simp only [Act.put, List.setIfInBounds_toArray, List.set_cons_zero, List.set_cons_succ])) | ((with_reducible apply t_skip); exact rfl; exact rfl; (try simp only [Act.put, List.setIfInBounds_toArray, List.set_cons_zero, List.set_cons_succ])) | ((with_reducible apply t_skip0 HM); exact rfl; exact rfl; infer_instance; (try simp only [Act.put, List.setIfInBounds_toArray, List.set_cons_zero, List.set_cons_succ])) | ((with_reducible apply t_pure); exact rfl; exact rfl; (focus (intro wv; go_simp; (try (go_ints; (try go_simp))); (first | rfl))); (try simp only [Act.put, List.setIfInBounds_toArray, List.set_cons_zero, List.set_cons_succ])))
  refine t_nil ?_
  go_wp2_with (first | ((with_reducible refine gate_dst (N := 217) rfl ?_); (with_reducible apply sl_append_lit HM); (first | exact Ev.const); infer_instance; (first | exact Ev.const); infer_instance; infer_instance; exact rfl; infer_instance; (first | (simp only [List.length_append, List.length_cons, List.length_nil] at *; omega)); clear HM; (try clear wq); intro v217 wq HM; (try simp only [Act.put, List.setIfInBounds_toArray, List.set_cons_zero, List.set_cons_succ]); haveI := HM.rowOne v217))
  refine wp_drawnS HM [] [(0, 1), (1, 0), (2, 1), (3, 1), (4, 1), (5, 0), (6, 1), (7, 1), (8, 1), (9, 1), (10, 0), (11, 1), (12, 1), (13, 1), (14, 1), (15, 0), (16, 0), (17, 1), (18, 1), (19, 0), (20, 1), (21, 1), (22, 1), (23, 1)] (by kernel_rfl) (by kernel_rfl) (by kernel_rfl) (by kernel_rfl) (fun _ _ d _ _ h => by cases d <;> exact h) ?_; clear HM; (try clear wq); intro wq HM
  repeat (first | ((with_reducible apply t_move); exact rfl; exact rfl; (first | exact Ev.tmp rfl); (try simp only [Act.put, List.setIfInBounds_toArray, List.set_cons_zero, List.set_cons_succ])) | ((with_reducible apply t_assign); exact rfl; exact rfl; (first | exact Ev.tmp rfl); (try simp only [Act.put, List.setIfInBounds_toArray, List.set_cons_zero, List.set_cons_succ])) | ((with_reducible apply t_load HM); exact rfl; exact rfl; exact rfl; infer_instance; infer_instance; infer_instance; (try simp only [Act.put, List.setIfInBounds_toArray, List.set_cons_zero, List.set_cons_succ])) | ((with_reducible apply t_skip); exact rfl; exact rfl; (try simp only [Act.put, List.setIfInBounds_toArray, List.set_cons_zero, List.set_cons_succ])) | ((with_reducible apply t_skip0 HM); exact rfl; exact rfl; infer_instance; (try simp only [Act.put, List.setIfInBounds_toArray, List.set_cons_zero, List.set_cons_succ])) | ((with_reducible apply t_pure); exact rfl; exact rfl; (focus (intro wv; go_simp; (try (go_ints; (try go_simp))); (first | rfl))); (try simp only [Act.put, List.setIfInBounds_toArray, List.set_cons_zero, List.set_cons_succ])))
  refine t_nil ?_
  go_wp2_with (first | ((with_reducible apply sl_load HM); exact rfl; infer_instance; infer_instance; (try simp only [Act.put, List.setIfInBounds_toArray, List.set_cons_zero, List.set_cons_succ])))
  refine wp_drawnM HM [cells g3 [.pointer (some ⟨gt, 0, none⟩)] 86, cells g4 (StE.cells ⟨0, xn, xr, taken⟩) 92, cells gt [.pointer (some ⟨g, 0, none⟩), .pointer (some ⟨gr, 0, none⟩), .slice Ab bl.length cb, .slice Aa T.ans.length ca, .slice Af n cf, .slice At n ct] 90] [] [(0, 0), (1, 1), (2, 1), (3, 0), (4, 1), (5, 0), (6, 2)] (by kernel_rfl) (by kernel_rfl) (by kernel_rfl) (by kernel_rfl) (fun _ _ d _ _ h => by cases d <;> exact h) ?_; clear HM; (try clear wq); intro wq HM
  repeat (first | ((with_reducible refine t_at (n := 6) rfl ?_); (with_reducible apply t_eff); exact rfl; exact rfl; intro K hK; go_simp; go_at_call 33; have HMq : SL.Mod B w0 (snd g S :: _) _ := HM.pick (snd g S); refine (AddK (S := S) (k := k) xr HK.out (Nat.le_trans HX.out.1 (by decide)) (Nat.le_trans HX.out.2 (by decide)) HMq).mono ?_; clear HMq; rintro e wq ⟨S1, rfl, h1, HM1⟩; clear HM; have HM := HM1; clear HM1; have HS1 := Aside0.mk h1; clear h1; refine hK _ _ _ HM inferInstance ?_; clear hK K; (try simp only [Act.put, List.setIfInBounds_toArray, List.set_cons_zero, List.set_cons_succ])) | ((with_reducible apply t_load HM); exact rfl; exact rfl; exact rfl; infer_instance; infer_instance; infer_instance; (try simp only [Act.put, List.setIfInBounds_toArray, List.set_cons_zero, List.set_cons_succ])) | ((with_reducible apply t_pure); exact rfl; exact rfl; (focus (intro wv; go_simp; (try (go_ints; (try go_simp))); (first | rfl))); (try simp only [Act.put, List.setIfInBounds_toArray, List.set_cons_zero, List.set_cons_succ])))
  refine t_nil ?_
  go_wp2_with (first | ((with_reducible refine gate_dst (N := 217) rfl ?_); (with_reducible apply sl_append_lit HM); (first | exact Ev.const); infer_instance; (first | exact Ev.const); infer_instance; infer_instance; exact rfl; infer_instance; (first | (simp only [List.length_append, List.length_cons, List.length_nil] at *; omega)); clear HM; (try clear wq); intro v217 wq HM; (try simp only [Act.put, List.setIfInBounds_toArray, List.set_cons_zero, List.set_cons_succ]); haveI := HM.rowOne v217))
  refine bodyPost_end (results_none rfl _ _ _) rfl (show StepPost g gr gt T N _ now B w0 H _ _ from ⟨rfl, ?_⟩)
  rw [E.out]
  have HM1 : SL.Mod B w0 (tlkL g gr gt S1 T.r (.slice Ab bl.length cb) (.slice Aa T.ans.length ca) bl T.ans Af cf At ct n fl tk H) _ := HM.sub
  exact Mod.closeTlk HM1 (by rw [HS1.out, H1.out]) H2.out (by have := H3.out; omega) H4.out H5.out rfl rfl
set_option maxHeartbeats 8000000 in
set_option maxRecDepth 100000 in
theorem step_send (g gr gt : Nat) (T : TK) (N k m : Nat) (xn : Int) (xr : Rec) (taken : Bool) (now : Int) (ho : T.Ok k m) (hk : k ≤ 1000000) (hm : m ≤ 1000000) (hN : N ≤ 80000000) (hx : V.RecQ xr)  (B : Nat) (w0 w : World) (H : List As) (HM : SL.Mod B w0 (tlk g gr gt T N :: H) w) :
    Calls Try.prog 43 #[.pointer (some ⟨gt, 0, none⟩), .agg (StE.cells ⟨1, xn, xr, taken⟩).toArray, .int .i64 now] w (StepPost g gr gt T N ⟨1, xn, xr, taken⟩ now B w0 H) := by
  obtain ⟨S, vB, vA, bl, Af, cf, At, ct, n, fl, tk, ⟨h1, h2, h3, h4, h5⟩, HM1⟩ := Mod.openTlk HM
  clear HM
  obtain ⟨Ab, cb, rfl, hcb, hlb, -⟩ := (HM1.pick (qrow vB 61 3 bl.length (bts 9 bl))).qSlice
  obtain ⟨Aa, ca, rfl, hca, hla, -⟩ := (HM1.pick (qrow vA 42 4 T.ans.length (anss T.ans))).qSlice
  have HM := HM1
  have HO := Aside0.mk ho
  have H1 := Aside0.mk h1
  have H2 := Aside0.mk h2
  have H3 := Aside0.mk h3
  have H4 := Aside0.mk h4
  have H5 := Aside0.mk h5
  have HX := Aside0.mk hx
  have hnb : bl.length ≤ 1000000 := by have h6 := congrArg List.length h2; rw [List.length_map] at h6; have := ho.bl; omega
  have hna : T.ans.length ≤ 1000000 := by have := ho.al; omega
  have HSS : Aside0 (S.s = 9) := ⟨by rw [show S.s = S.p.s from rfl, h1]; exact ho.ss⟩
  have HK : Aside0 (S.p.Ok k) := ⟨by rw [h1]; exact ho.p⟩
  have HHL : Aside0 ((bts 9 bl).length = bl.length * 3) := ⟨hlb⟩
  have HLA : Aside0 ((anss T.ans).length = T.ans.length * 4) := ⟨hla⟩
  have hn2 : n ≤ 80000000 := by omega
  clear HM1 h1 h2 h3 h4 h5 hx hlb hla ho
  obtain ⟨m2, hm2⟩ : ∃ m2, (S.p.sends now).2.length = m2 := ⟨_, rfl⟩
  have hm3 : m2 ≤ 272 := by
    rw [← hm2]
    exact (SB.len (s := 9) ⟨HK.out, by rw [H1.out]; exact HO.out.bat, HSS.out, by decide⟩ now)
  have HMM := Aside0.mk hm2
  clear hm2
  have E : Aside0 (T.step ⟨1, xn, xr, taken⟩ now = { T with P := (T.P.sends now).1, bs := T.bs ++ (T.P.sends now).2 }) := ⟨by
    unfold TK.step
    dsimp only
    rw [if_neg (by omega), if_pos rfl]⟩
  go_enter Try.func43, Try.ntmps43
  go_wp2_with (first | ((with_reducible refine gate_dst (N := 3) rfl ?_); (with_reducible apply sl_box HM); (first | exact Ev.tmp rfl); exact rfl; clear HM; (try clear wq); intro g3 wq HM; (try simp only [Act.put, List.setIfInBounds_toArray, List.set_cons_zero, List.set_cons_succ])) | ((with_reducible refine gate_dst (N := 4) rfl ?_); (with_reducible apply sl_box HM); (first | exact Ev.tmp rfl); exact rfl; clear HM; (try clear wq); intro g4 wq HM; (try simp only [Act.put, List.setIfInBounds_toArray, List.set_cons_zero, List.set_cons_succ])))
  refine wp_drawnS HM [] [(0, 1), (1, 0), (2, 1), (3, 1), (4, 1), (5, 0), (6, 1), (7, 1), (8, 1), (9, 1), (10, 0), (11, 1), (12, 1), (13, 1), (14, 1), (15, 0), (16, 0), (17, 1), (18, 1), (19, 0), (20, 1), (21, 1), (22, 1), (23, 1)] (by kernel_rfl) (by kernel_rfl) (by kernel_rfl) (by kernel_rfl) (fun _ _ d _ _ h => by cases d <;> exact h) ?_; clear HM; (try clear wq); intro wq HM
  repeat (first | ((with_reducible apply t_move); exact rfl; exact rfl; (first | exact Ev.tmp rfl); (try simp only [Act.put, List.setIfInBounds_toArray, List.set_cons_zero, List.set_cons_succ])) | ((with_reducible apply t_assign); exact rfl; exact rfl; (first | exact Ev.tmp rfl); (try simp only [Act.put, List.setIfInBounds_toArray, List.set_cons_zero, List.set_cons_succ])) | ((with_reducible apply t_load HM); exact rfl; exact rfl; exact rfl; infer_instance; infer_instance; infer_instance; (try simp only [Act.put, List.setIfInBounds_toArray, List.set_cons_zero, List.set_cons_succ])) | ((with_reducible apply t_skip); exact rfl; exact rfl; (try simp only [Act.put, List.setIfInBounds_toArray, List.set_cons_zero, List.set_cons_succ])) | ((with_reducible apply t_skip0 HM); exact rfl; exact rfl; infer_instance; (try simp only [Act.put, List.setIfInBounds_toArray, List.set_cons_zero, List.set_cons_succ])) | ((with_reducible apply t_pure); exact rfl; exact rfl; (focus (intro wv; go_simp; (try (go_ints; (try go_simp))); (first | rfl))); (try simp only [Act.put, List.setIfInBounds_toArray, List.set_cons_zero, List.set_cons_succ])))
  refine t_nil ?_
  go_wp2_with (first | ((with_reducible refine gate_dst (N := 217) rfl ?_); (with_reducible apply sl_append_lit HM); (first | exact Ev.const); infer_instance; (first | exact Ev.const); infer_instance; infer_instance; exact rfl; infer_instance; (first | (simp only [List.length_append, List.length_cons, List.length_nil] at *; omega)); clear HM; (try clear wq); intro v217 wq HM; (try simp only [Act.put, List.setIfInBounds_toArray, List.set_cons_zero, List.set_cons_succ]); haveI := HM.rowOne v217))
  refine wp_drawnS HM [] [(0, 1), (1, 0), (2, 1), (3, 1), (4, 1), (5, 0), (6, 1), (7, 1), (8, 1), (9, 1), (10, 0), (11, 1), (12, 1), (13, 1), (14, 1), (15, 0), (16, 0), (17, 1), (18, 1), (19, 0), (20, 1), (21, 1), (22, 1), (23, 1)] (by kernel_rfl) (by kernel_rfl) (by kernel_rfl) (by kernel_rfl) (fun _ _ d _ _ h => by cases d <;> exact h) ?_; clear HM; (try clear wq); intro wq HM
  repeat (first | ((with_reducible apply t_move); exact rfl; exact rfl; (first | exact Ev.tmp rfl); (try simp only [Act.put, List.setIfInBounds_toArray, List.set_cons_zero, List.set_cons_succ])) | ((with_reducible apply t_assign); exact rfl; exact rfl; (first | exact Ev.tmp rfl); (try simp only [Act.put, List.setIfInBounds_toArray, List.set_cons_zero, List.set_cons_succ])) | ((with_reducible apply t_load HM); exact rfl; exact rfl; exact rfl; infer_instance; infer_instance; infer_instance; (try simp only [Act.put, List.setIfInBounds_toArray, List.set_cons_zero, List.set_cons_succ])) | ((with_reducible apply t_skip); exact rfl; exact rfl; (try simp only [Act.put, List.setIfInBounds_toArray, List.set_cons_zero, List.set_cons_succ])) | ((with_reducible apply t_skip0 HM); exact rfl; exact rfl; infer_instance; (try simp only [Act.put, List.setIfInBounds_toArray, List.set_cons_zero, List.set_cons_succ])) | ((with_reducible apply t_pure); exact rfl; exact rfl; (focus (intro wv; go_simp; (try (go_ints; (try go_simp))); (first | rfl))); (try simp only [Act.put, List.setIfInBounds_toArray, List.set_cons_zero, List.set_cons_succ])))
  refine t_nil ?_
  go_wp2_with (first | ((with_reducible apply sl_load HM); exact rfl; infer_instance; infer_instance; (try simp only [Act.put, List.setIfInBounds_toArray, List.set_cons_zero, List.set_cons_succ])))
  refine wp_drawnM HM [cells g3 [.pointer (some ⟨gt, 0, none⟩)] 86, cells g4 (StE.cells ⟨1, xn, xr, taken⟩) 92, cells gt [.pointer (some ⟨g, 0, none⟩), .pointer (some ⟨gr, 0, none⟩), .slice Ab bl.length cb, .slice Aa T.ans.length ca, .slice Af n cf, .slice At n ct] 90] [14] [(0, 0), (1, 0), (2, 1), (3, 1), (4, 0), (5, 0), (6, 1), (7, 1), (8, 0), (9, 1), (10, 2), (11, 2), (12, 1), (13, 1), (14, 3)] (by kernel_rfl) (by kernel_rfl) (by kernel_rfl) (by kernel_rfl) (fun _ _ d _ _ h => by cases d <;> exact h) ?_; clear HM; (try clear wq); intro wq HM
  repeat (first | ((with_reducible refine t_at (n := 10) rfl ?_); (with_reducible apply t_eff); exact rfl; exact rfl; intro K hK; go_simp; go_at_call 34; have HMq : SL.Mod B w0 (snd g S :: _) _ := HM.pick (snd g S); refine (SendK (S := S) (k := k) now HK.out (by omega) HMq).mono ?_; clear HMq; rintro e wq ⟨v83, ol, S1, rfl, h1, h2, HM1⟩; clear HM; have HM := HM1; clear HM1; have hb3 : ol.length = m2 := (by rw [← HMM.out, ← h2, List.length_map]); rw [hb3, HSS.out] at HM; have HOL := Aside0.mk hb3; clear hb3; obtain ⟨A83, c83, rfl, -⟩ := row_slice (HM.rowOwn v83); have HS1 := Aside0.mk h1; have HOV := Aside0.mk h2; clear h1 h2; refine hK _ _ _ HM inferInstance ?_; clear hK K; (try simp only [Act.put, List.setIfInBounds_toArray, List.set_cons_zero, List.set_cons_succ])) | ((with_reducible refine t_at (n := 11) rfl ?_); (with_reducible apply t_eff); exact rfl; exact rfl; intro K hK; have HMc : SL.Mod B w0 (qrow (.slice Ab bl.length cb) 61 3 bl.length (bts 9 bl) :: _) _ := HM.pick (qrow (.slice Ab bl.length cb) 61 3 bl.length (bts 9 bl)); have hnw := (ownsRow_reads (HM.rowOwn (.slice A83 m2 c83))).1; (with_reducible apply ow_qappend HMc); (first | exact Ev.tmp rfl); (first | exact Ev.tmp rfl); infer_instance; exact hnw; (rw [flat_len (bt_len 9), HOL.out]); infer_instance; infer_instance; omega; clear HM HMc hnw; (try clear wq); intro v84 wq HM; haveI := HM.qOne; refine hK _ _ _ HM inferInstance ?_; clear hK K; (try simp only [Act.put, List.setIfInBounds_toArray, List.set_cons_zero, List.set_cons_succ])) | ((with_reducible refine t_at (n := 14) rfl ?_); ((with_reducible apply t_last); exact rfl; exact rfl; intro K hK; (with_reducible apply ow_store HM); exact rfl; (first | exact Ev.tmp rfl); infer_instance; infer_instance; infer_instance; clear HM; (try clear wq); intro  wq HM; refine hK _ _ ?_; clear hK K; (try simp only [Act.put, List.setIfInBounds_toArray, List.set_cons_zero, List.set_cons_succ]))) | ((with_reducible apply t_move); exact rfl; exact rfl; (first | exact Ev.tmp rfl); (try simp only [Act.put, List.setIfInBounds_toArray, List.set_cons_zero, List.set_cons_succ])) | ((with_reducible apply t_load HM); exact rfl; exact rfl; exact rfl; infer_instance; infer_instance; infer_instance; (try simp only [Act.put, List.setIfInBounds_toArray, List.set_cons_zero, List.set_cons_succ])) | ((with_reducible apply t_pure); exact rfl; exact rfl; (focus (intro wv; go_simp; (try (go_ints; (try go_simp))); (first | rfl))); (try simp only [Act.put, List.setIfInBounds_toArray, List.set_cons_zero, List.set_cons_succ])))
  refine t_nil ?_
  go_wp2_with (first | ((with_reducible refine gate_dst (N := 217) rfl ?_); (with_reducible apply sl_append_lit HM); (first | exact Ev.const); infer_instance; (first | exact Ev.const); infer_instance; infer_instance; exact rfl; infer_instance; (first | (simp only [List.length_append, List.length_cons, List.length_nil] at *; omega)); clear HM; (try clear wq); intro v217 wq HM; (try simp only [Act.put, List.setIfInBounds_toArray, List.set_cons_zero, List.set_cons_succ]); haveI := HM.rowOne v217))
  refine bodyPost_end (results_none rfl _ _ _) rfl (show StepPost g gr gt T N _ now B w0 H _ _ from ⟨rfl, ?_⟩)
  rw [E.out]
  have HM1 := Mod.starFrz (modPick2b (HM.pick (SL.star (ol.map Bt.own))) (frz (itB bl)))
  have HM2 := HM1.frzSub (L' := itB (bl ++ ol)) (fun p hp => by
    unfold itB at hp ⊢
    rw [List.map_append] at hp
    exact List.mem_append.2 ((List.mem_append.1 hp).symm))
  have e1 : bts 9 bl ++ bts 9 ol = bts 9 (bl ++ ol) := by simp [bts, List.flatMap_append]
  have e2 : bl.length + m2 = (bl ++ ol).length := by rw [List.length_append, HOL.out]
  rw [e1, e2] at HM2
  have HM3 : SL.Mod B w0 (tlkL g gr gt S1 T.r v84 (.slice Aa T.ans.length ca) (bl ++ ol) T.ans Af cf At ct n fl tk H) _ := HM2.sub
  exact Mod.closeTlk HM3 (by rw [HS1.out, H1.out]) (by rw [List.map_append, H2.out, HOV.out, H1.out]) (by have := H3.out; omega) H4.out H5.out rfl rfl
end Go.Proofs.Ytghfoooldcbdnaa
set_option linter.unusedVariables false
set_option linter.unusedSimpArgs false
namespace Go.Proofs.Ytghfoooldcbdnaa
open Go.RowKit Go.Proofs.Ytghfoooldcbdnaa.SL Go.Proofs.YtghfoooldcbdnaaW.PrintWords Go.Proofs.YtghfoooldcbdnaaW.PrintLast
set_option maxHeartbeats 8000000 in
set_option maxRecDepth 100000 in
theorem step_dup (g gr gt : Nat) (T : TK) (N k m : Nat)  (xr : Rec) (taken : Bool) (now : Int) (ho : T.Ok k m) (hk : k ≤ 1000000) (hm : m ≤ 1000000) (hN : N ≤ 80000000) (hx : V.RecQ xr) (i : Nat) (b : Int × List Rec) (hi : i < T.bs.length) (hb : T.bs[i]? = some b) (B : Nat) (w0 w : World) (H : List As) (HM : SL.Mod B w0 (tlk g gr gt T N :: H) w) :
    Calls Try.prog 43 #[.pointer (some ⟨gt, 0, none⟩), .agg (StE.cells ⟨4, (i : Int), xr, taken⟩).toArray, .int .i64 now] w (StepPost g gr gt T N ⟨4, (i : Int), xr, taken⟩ now B w0 H) := by
  obtain ⟨S, vB, vA, bl, Af, cf, At, ct, n, fl, tk, ⟨h1, h2, h3, h4, h5⟩, HM1⟩ := Mod.openTlk HM
  clear HM
  obtain ⟨Ab, cb, rfl, hcb, hlb, -⟩ := (HM1.pick (qrow vB 61 3 bl.length (bts 9 bl))).qSlice
  obtain ⟨Aa, ca, rfl, hca, hla, -⟩ := (HM1.pick (qrow vA 42 4 T.ans.length (anss T.ans))).qSlice
  have HM := HM1
  have HO := Aside0.mk ho
  have H1 := Aside0.mk h1
  have H2 := Aside0.mk h2
  have H3 := Aside0.mk h3
  have H4 := Aside0.mk h4
  have H5 := Aside0.mk h5
  have HX := Aside0.mk hx
  have hnb : bl.length ≤ 1000000 := by have h6 := congrArg List.length h2; rw [List.length_map] at h6; have := ho.bl; omega
  have hna : T.ans.length ≤ 1000000 := by have := ho.al; omega
  have HSS : Aside0 (S.s = 9) := ⟨by rw [show S.s = S.p.s from rfl, h1]; exact ho.ss⟩
  have HK : Aside0 (S.p.Ok k) := ⟨by rw [h1]; exact ho.p⟩
  have HHL : Aside0 ((bts 9 bl).length = bl.length * 3) := ⟨hlb⟩
  have HLA : Aside0 ((anss T.ans).length = T.ans.length * 4) := ⟨hla⟩
  have hn2 : n ≤ 80000000 := by omega
  clear HM1 h1 h2 h3 h4 h5 hx hlb hla ho
  have hil : i < bl.length := by have h6 := congrArg List.length H2.out; rw [List.length_map] at h6; omega
  obtain ⟨y, hy⟩ : ∃ y, bl[i]? = some y := ⟨_, List.getElem?_eq_getElem hil⟩
  have HYV : Aside0 ((y.n, y.l) = b) := ⟨by
    have h6 := bt_v H2.out hy
    rw [hb] at h6
    injection h6 with h6
    exact h6.symm⟩
  have HYM := Aside0.mk (List.mem_of_getElem? hy)
  obtain ⟨ad, rfl⟩ := (Mod.qReads (HM.pick (qrow (.slice Ab bl.length cb) 61 3 bl.length (bts 9 bl)))).addr (by rw [HHL.out]; omega)
  have hld : Aside0 (∀ w', SL.Mod B w0 [qrow (.slice (some ad) bl.length cb) 61 3 bl.length (bts 9 bl)] w' → Sem.run Try.prog (Instr.loadAt 61 (.pointer (some (ad.add (i * 3))))) w' = .ok (.agg (y.cells 9).toArray) w') := ⟨fun w' h => q_load (bt_len 9) h hy⟩
  have hd0 : decide ((0 : Int) ≤ (i : Int)) = true := decide_eq_true (by omega)
  have hd1 : decide (i < bl.length) = true := decide_eq_true hil
  have HBB := Aside0.mk hb
  have HIL := Aside0.mk hi
  obtain ⟨yn, yl, yA, yc⟩ := y
  simp only [Bt.cells] at hld
  clear hy hb hi
  have E : Aside0 (T.step ⟨4, (i : Int), xr, taken⟩ now = { T with bs := T.bs ++ [b] }) := ⟨by
    unfold TK.step
    dsimp only
    rw [if_neg (by omega), if_neg (by omega), if_pos ⟨by omega, by omega, by omega, by have := HIL.out; omega⟩, Int.toNat_natCast, HBB.out]
    dsimp only
    rw [if_pos rfl]⟩
  go_enter Try.func43, Try.ntmps43
  go_wp2_with (first | ((with_reducible refine gate_dst (N := 3) rfl ?_); (with_reducible apply sl_box HM); (first | exact Ev.tmp rfl); exact rfl; clear HM; (try clear wq); intro g3 wq HM; (try simp only [Act.put, List.setIfInBounds_toArray, List.set_cons_zero, List.set_cons_succ])) | ((with_reducible refine gate_dst (N := 4) rfl ?_); (with_reducible apply sl_box HM); (first | exact Ev.tmp rfl); exact rfl; clear HM; (try clear wq); intro g4 wq HM; (try simp only [Act.put, List.setIfInBounds_toArray, List.set_cons_zero, List.set_cons_succ])))
  refine wp_drawnS HM [] [(0, 1), (1, 0), (2, 1), (3, 1), (4, 1), (5, 0), (6, 1), (7, 1), (8, 1), (9, 1), (10, 0), (11, 1), (12, 1), (13, 1), (14, 1), (15, 0), (16, 0), (17, 1), (18, 1), (19, 0), (20, 1), (21, 1), (22, 1), (23, 1)] (by kernel_rfl) (by kernel_rfl) (by kernel_rfl) (by kernel_rfl) (fun _ _ d _ _ h => by cases d <;> exact h) ?_; clear HM; (try clear wq); intro wq HM
  repeat (first | ((with_reducible apply t_move); exact rfl; exact rfl; (first | exact Ev.tmp rfl); (try simp only [Act.put, List.setIfInBounds_toArray, List.set_cons_zero, List.set_cons_succ])) | ((with_reducible apply t_assign); exact rfl; exact rfl; (first | exact Ev.tmp rfl); (try simp only [Act.put, List.setIfInBounds_toArray, List.set_cons_zero, List.set_cons_succ])) | ((with_reducible apply t_load HM); exact rfl; exact rfl; exact rfl; infer_instance; infer_instance; infer_instance; (try simp only [Act.put, List.setIfInBounds_toArray, List.set_cons_zero, List.set_cons_succ])) | ((with_reducible apply t_pure); exact rfl; exact rfl; (focus (intro wv; go_simp; (try (go_ints; (try go_simp))); (first | rfl))); (try simp only [Act.put, List.setIfInBounds_toArray, List.set_cons_zero, List.set_cons_succ])))
  refine t_nil ?_
  go_wp2_with (first | ((with_reducible refine gate_dst (N := 217) rfl ?_); (with_reducible apply sl_append_lit HM); (first | exact Ev.const); infer_instance; (first | exact Ev.const); infer_instance; infer_instance; exact rfl; infer_instance; (first | (simp only [List.length_append, List.length_cons, List.length_nil] at *; omega)); clear HM; (try clear wq); intro v217 wq HM; (try simp only [Act.put, List.setIfInBounds_toArray, List.set_cons_zero, List.set_cons_succ]); haveI := HM.rowOne v217))
  refine wp_drawnS HM [] [(0, 1), (1, 0), (2, 1), (3, 1), (4, 1), (5, 0), (6, 1), (7, 1), (8, 1), (9, 1), (10, 0), (11, 1), (12, 1), (13, 1), (14, 1), (15, 0), (16, 0), (17, 1), (18, 1), (19, 0), (20, 1), (21, 1), (22, 1), (23, 1)] (by kernel_rfl) (by kernel_rfl) (by kernel_rfl) (by kernel_rfl) (fun _ _ d _ _ h => by cases d <;> exact h) ?_; clear HM; (try clear wq); intro wq HM
  repeat (first | ((with_reducible apply t_move); exact rfl; exact rfl; (first | exact Ev.tmp rfl); (try simp only [Act.put, List.setIfInBounds_toArray, List.set_cons_zero, List.set_cons_succ])) | ((with_reducible apply t_assign); exact rfl; exact rfl; (first | exact Ev.tmp rfl); (try simp only [Act.put, List.setIfInBounds_toArray, List.set_cons_zero, List.set_cons_succ])) | ((with_reducible apply t_load HM); exact rfl; exact rfl; exact rfl; infer_instance; infer_instance; infer_instance; (try simp only [Act.put, List.setIfInBounds_toArray, List.set_cons_zero, List.set_cons_succ])) | ((with_reducible apply t_skip); exact rfl; exact rfl; (try simp only [Act.put, List.setIfInBounds_toArray, List.set_cons_zero, List.set_cons_succ])) | ((with_reducible apply t_skip0 HM); exact rfl; exact rfl; infer_instance; (try simp only [Act.put, List.setIfInBounds_toArray, List.set_cons_zero, List.set_cons_succ])) | ((with_reducible apply t_pure); exact rfl; exact rfl; (focus (intro wv; go_simp; (try (go_ints; (try go_simp))); (first | rfl))); (try simp only [Act.put, List.setIfInBounds_toArray, List.set_cons_zero, List.set_cons_succ])))
  refine t_nil ?_
  go_wp2_with (first | ((with_reducible apply sl_want); exact rfl) | ((with_reducible apply sl_load HM); exact rfl; infer_instance; infer_instance; (try simp only [Act.put, List.setIfInBounds_toArray, List.set_cons_zero, List.set_cons_succ])))
  refine wp_drawnM HM [cells g3 [.pointer (some ⟨gt, 0, none⟩)] 86, cells g4 (StE.cells ⟨4, (i : Int), xr, taken⟩) 92, cells gt [.pointer (some ⟨g, 0, none⟩), .pointer (some ⟨gr, 0, none⟩), .slice (some ad) bl.length cb, .slice Aa T.ans.length ca, .slice Af n cf, .slice At n ct] 90] [17] [(0, 0), (1, 0), (2, 1), (3, 1), (4, 0), (5, 0), (6, 1), (7, 1), (8, 0), (9, 1), (10, 0), (11, 1), (12, 2), (13, 2), (14, 2), (15, 1), (16, 1), (17, 3)] (by kernel_rfl) (by kernel_rfl) (by kernel_rfl) (by kernel_rfl) (fun _ _ d _ _ h => by cases d <;> exact h) ?_; clear HM; (try clear wq); intro wq HM
  repeat (first | ((with_reducible refine t_at (n := 12) rfl ?_); (with_reducible apply t_eff); exact rfl; exact rfl; intro K hK; (with_reducible apply ow_loadH HM); exact rfl; exact hld; infer_instance; refine hK _ _ _ HM inferInstance ?_; clear hK K; (try simp only [Act.put, List.setIfInBounds_toArray, List.set_cons_zero, List.set_cons_succ])) | ((with_reducible refine t_at (n := 14) rfl ?_); (with_reducible apply t_eff); exact rfl; exact rfl; intro K hK; have HMc : SL.Mod B w0 (qrow (.slice (some ad) bl.length cb) 61 3 bl.length (bts 9 bl) :: _) _ := HM.pick (qrow (.slice (some ad) bl.length cb) 61 3 bl.length (bts 9 bl)); have hnw : Reads _ (some ⟨g107, 0, none⟩) _ := (fun j u hj => ⟨_, rfl, cells_at (HM.has g107) j u hj⟩); (with_reducible apply ow_qappend HMc); (first | exact Ev.tmp rfl); (first | exact Ev.tmp rfl); infer_instance; exact hnw; rfl; infer_instance; infer_instance; omega; clear HM HMc hnw; (try clear wq); intro v108 wq HM; haveI := HM.qOne; refine hK _ _ _ HM inferInstance ?_; clear hK K; (try simp only [Act.put, List.setIfInBounds_toArray, List.set_cons_zero, List.set_cons_succ])) | ((with_reducible refine t_at (n := 17) rfl ?_); ((with_reducible apply t_last); exact rfl; exact rfl; intro K hK; (with_reducible apply ow_store HM); exact rfl; (first | exact Ev.tmp rfl); infer_instance; infer_instance; infer_instance; clear HM; (try clear wq); intro  wq HM; refine hK _ _ ?_; clear hK K; (try simp only [Act.put, List.setIfInBounds_toArray, List.set_cons_zero, List.set_cons_succ]))) | ((with_reducible apply t_load HM); exact rfl; exact rfl; exact rfl; infer_instance; infer_instance; infer_instance; (try simp only [Act.put, List.setIfInBounds_toArray, List.set_cons_zero, List.set_cons_succ])) | ((with_reducible apply t_pure); exact rfl; exact rfl; (focus (intro wv; go_simp; (try (go_ints; (try go_simp))); (first | rfl))); (try simp only [Act.put, List.setIfInBounds_toArray, List.set_cons_zero, List.set_cons_succ])) | ((with_reducible apply t_eff); exact rfl; exact rfl; intro K hK; (with_reducible apply ow_lit HM); (focus (go_simp; (try rfl); done)); clear HM; (try clear wq); intro g107 wq HM; refine hK _ _ _ HM inferInstance ?_; clear hK K; (try simp only [Act.put, List.setIfInBounds_toArray, List.set_cons_zero, List.set_cons_succ])))
  refine t_nil ?_
  go_wp2_with (first | ((with_reducible refine gate_dst (N := 217) rfl ?_); (with_reducible apply sl_append_lit HM); (first | exact Ev.const); infer_instance; (first | exact Ev.const); infer_instance; infer_instance; exact rfl; infer_instance; (first | (simp only [List.length_append, List.length_cons, List.length_nil] at *; omega)); clear HM; (try clear wq); intro v217 wq HM; (try simp only [Act.put, List.setIfInBounds_toArray, List.set_cons_zero, List.set_cons_succ]); haveI := HM.rowOne v217))
  refine bodyPost_end (results_none rfl _ _ _) rfl (show StepPost g gr gt T N _ now B w0 H _ _ from ⟨rfl, ?_⟩)
  rw [E.out]
  have e1 := bts_app 9 bl ⟨yn, yl, yA, yc⟩
  dsimp only at e1
  have e2 : bl.length + 1 = (bl ++ [(⟨yn, yl, yA, yc⟩ : Bt)]).length := by simp
  rw [e1, e2] at HM
  have HM2 := (HM.pick (frz (itB bl))).frzSub (L' := itB (bl ++ [(⟨yn, yl, yA, yc⟩ : Bt)])) (fun p hp => by
    unfold itB at hp ⊢
    rw [List.map_append] at hp
    rcases List.mem_append.1 hp with hp | hp
    · exact hp
    · rw [List.mem_singleton.1 hp]
      exact List.mem_map.2 ⟨_, HYM.out, rfl⟩)
  have HM3 : SL.Mod B w0 (tlkL g gr gt S T.r v108 (.slice Aa T.ans.length ca) (bl ++ [(⟨yn, yl, yA, yc⟩ : Bt)]) T.ans Af cf At ct n fl tk H) _ := HM2.sub
  exact Mod.closeTlk HM3 H1.out (by rw [List.map_append, H2.out, ← HYV.out]; rfl) (by have := H3.out; omega) H4.out H5.out rfl rfl
set_option maxHeartbeats 8000000 in
set_option maxRecDepth 100000 in
theorem step_lose (g gr gt : Nat) (T : TK) (N k m : Nat)  (xr : Rec) (taken : Bool) (now : Int) (ho : T.Ok k m) (hk : k ≤ 1000000) (hm : m ≤ 1000000) (hN : N ≤ 80000000) (hx : V.RecQ xr) (i : Nat) (b : Int × List Rec) (hi : i < T.bs.length) (hb : T.bs[i]? = some b) (B : Nat) (w0 w : World) (H : List As) (HM : SL.Mod B w0 (tlk g gr gt T N :: H) w) :
    Calls Try.prog 43 #[.pointer (some ⟨gt, 0, none⟩), .agg (StE.cells ⟨3, (i : Int), xr, taken⟩).toArray, .int .i64 now] w (StepPost g gr gt T N ⟨3, (i : Int), xr, taken⟩ now B w0 H) := by
  obtain ⟨S, vB, vA, bl, Af, cf, At, ct, n, fl, tk, ⟨h1, h2, h3, h4, h5⟩, HM1⟩ := Mod.openTlk HM
  clear HM
  obtain ⟨Ab, cb, rfl, hcb, hlb, -⟩ := (HM1.pick (qrow vB 61 3 bl.length (bts 9 bl))).qSlice
  obtain ⟨Aa, ca, rfl, hca, hla, -⟩ := (HM1.pick (qrow vA 42 4 T.ans.length (anss T.ans))).qSlice
  have HM := HM1
  have HO := Aside0.mk ho
  have H1 := Aside0.mk h1
  have H2 := Aside0.mk h2
  have H3 := Aside0.mk h3
  have H4 := Aside0.mk h4
  have H5 := Aside0.mk h5
  have HX := Aside0.mk hx
  have hnb : bl.length ≤ 1000000 := by have h6 := congrArg List.length h2; rw [List.length_map] at h6; have := ho.bl; omega
  have hna : T.ans.length ≤ 1000000 := by have := ho.al; omega
  have HSS : Aside0 (S.s = 9) := ⟨by rw [show S.s = S.p.s from rfl, h1]; exact ho.ss⟩
  have HK : Aside0 (S.p.Ok k) := ⟨by rw [h1]; exact ho.p⟩
  have HHL : Aside0 ((bts 9 bl).length = bl.length * 3) := ⟨hlb⟩
  have HLA : Aside0 ((anss T.ans).length = T.ans.length * 4) := ⟨hla⟩
  have hn2 : n ≤ 80000000 := by omega
  clear HM1 h1 h2 h3 h4 h5 hx hlb hla ho
  have hil : i < bl.length := by have h6 := congrArg List.length H2.out; rw [List.length_map] at h6; omega
  obtain ⟨y, hy⟩ : ∃ y, bl[i]? = some y := ⟨_, List.getElem?_eq_getElem hil⟩
  have HYV : Aside0 ((y.n, y.l) = b) := ⟨by
    have h6 := bt_v H2.out hy
    rw [hb] at h6
    injection h6 with h6
    exact h6.symm⟩
  have HYM := Aside0.mk (List.mem_of_getElem? hy)
  obtain ⟨ad, rfl⟩ := (Mod.qReads (HM.pick (qrow (.slice Ab bl.length cb) 61 3 bl.length (bts 9 bl)))).addr (by rw [HHL.out]; omega)
  have hld : Aside0 (∀ w', SL.Mod B w0 [qrow (.slice (some ad) bl.length cb) 61 3 bl.length (bts 9 bl)] w' → Sem.run Try.prog (Instr.loadAt 61 (.pointer (some (ad.add (i * 3))))) w' = .ok (.agg (y.cells 9).toArray) w') := ⟨fun w' h => q_load (bt_len 9) h hy⟩
  have hd0 : decide ((0 : Int) ≤ (i : Int)) = true := decide_eq_true (by omega)
  have hd1 : decide (i < bl.length) = true := decide_eq_true hil
  have HBB := Aside0.mk hb
  have HIL := Aside0.mk hi
  obtain ⟨yn, yl, yA, yc⟩ := y
  simp only [Bt.cells] at hld
  clear hy hb hi
  have E : Aside0 (T.step ⟨3, (i : Int), xr, taken⟩ now = { T with bs := T.bs.eraseIdx i }) := ⟨by
    unfold TK.step
    dsimp only
    rw [if_neg (by omega), if_neg (by omega), if_pos ⟨by omega, by omega, by omega, by have := HIL.out; omega⟩, Int.toNat_natCast, HBB.out]
    dsimp only
    rw [if_neg (by omega), if_neg (by omega)]⟩
  go_enter Try.func43, Try.ntmps43
  go_wp2_with (first | ((with_reducible refine gate_dst (N := 3) rfl ?_); (with_reducible apply sl_box HM); (first | exact Ev.tmp rfl); exact rfl; clear HM; (try clear wq); intro g3 wq HM; (try simp only [Act.put, List.setIfInBounds_toArray, List.set_cons_zero, List.set_cons_succ])) | ((with_reducible refine gate_dst (N := 4) rfl ?_); (with_reducible apply sl_box HM); (first | exact Ev.tmp rfl); exact rfl; clear HM; (try clear wq); intro g4 wq HM; (try simp only [Act.put, List.setIfInBounds_toArray, List.set_cons_zero, List.set_cons_succ])))
  refine wp_drawnS HM [] [(0, 1), (1, 0), (2, 1), (3, 1), (4, 1), (5, 0), (6, 1), (7, 1), (8, 1), (9, 1), (10, 0), (11, 1), (12, 1), (13, 1), (14, 1), (15, 0), (16, 0), (17, 1), (18, 1), (19, 0), (20, 1), (21, 1), (22, 1), (23, 1)] (by kernel_rfl) (by kernel_rfl) (by kernel_rfl) (by kernel_rfl) (fun _ _ d _ _ h => by cases d <;> exact h) ?_; clear HM; (try clear wq); intro wq HM
  repeat (first | ((with_reducible apply t_move); exact rfl; exact rfl; (first | exact Ev.tmp rfl); (try simp only [Act.put, List.setIfInBounds_toArray, List.set_cons_zero, List.set_cons_succ])) | ((with_reducible apply t_assign); exact rfl; exact rfl; (first | exact Ev.tmp rfl); (try simp only [Act.put, List.setIfInBounds_toArray, List.set_cons_zero, List.set_cons_succ])) | ((with_reducible apply t_load HM); exact rfl; exact rfl; exact rfl; infer_instance; infer_instance; infer_instance; (try simp only [Act.put, List.setIfInBounds_toArray, List.set_cons_zero, List.set_cons_succ])) | ((with_reducible apply t_pure); exact rfl; exact rfl; (focus (intro wv; go_simp; (try (go_ints; (try go_simp))); (first | rfl))); (try simp only [Act.put, List.setIfInBounds_toArray, List.set_cons_zero, List.set_cons_succ])))
  refine t_nil ?_
  go_wp2_with (first | ((with_reducible refine gate_dst (N := 217) rfl ?_); (with_reducible apply sl_append_lit HM); (first | exact Ev.const); infer_instance; (first | exact Ev.const); infer_instance; infer_instance; exact rfl; infer_instance; (first | (simp only [List.length_append, List.length_cons, List.length_nil] at *; omega)); clear HM; (try clear wq); intro v217 wq HM; (try simp only [Act.put, List.setIfInBounds_toArray, List.set_cons_zero, List.set_cons_succ]); haveI := HM.rowOne v217))
  refine wp_drawnS HM [] [(0, 1), (1, 0), (2, 1), (3, 1), (4, 1), (5, 0), (6, 1), (7, 1), (8, 1), (9, 1), (10, 0), (11, 1), (12, 1), (13, 1), (14, 1), (15, 0), (16, 0), (17, 1), (18, 1), (19, 0), (20, 1), (21, 1), (22, 1), (23, 1)] (by kernel_rfl) (by kernel_rfl) (by kernel_rfl) (by kernel_rfl) (fun _ _ d _ _ h => by cases d <;> exact h) ?_; clear HM; (try clear wq); intro wq HM
  repeat (first | ((with_reducible apply t_move); exact rfl; exact rfl; (first | exact Ev.tmp rfl); (try simp only [Act.put, List.setIfInBounds_toArray, List.set_cons_zero, List.set_cons_succ])) | ((with_reducible apply t_assign); exact rfl; exact rfl; (first | exact Ev.tmp rfl); (try simp only [Act.put, List.setIfInBounds_toArray, List.set_cons_zero, List.set_cons_succ])) | ((with_reducible apply t_load HM); exact rfl; exact rfl; exact rfl; infer_instance; infer_instance; infer_instance; (try simp only [Act.put, List.setIfInBounds_toArray, List.set_cons_zero, List.set_cons_succ])) | ((with_reducible apply t_skip); exact rfl; exact rfl; (try simp only [Act.put, List.setIfInBounds_toArray, List.set_cons_zero, List.set_cons_succ])) | ((with_reducible apply t_skip0 HM); exact rfl; exact rfl; infer_instance; (try simp only [Act.put, List.setIfInBounds_toArray, List.set_cons_zero, List.set_cons_succ])) | ((with_reducible apply t_pure); exact rfl; exact rfl; (focus (intro wv; go_simp; (try (go_ints; (try go_simp))); (first | rfl))); (try simp only [Act.put, List.setIfInBounds_toArray, List.set_cons_zero, List.set_cons_succ])))
  refine t_nil ?_
  go_wp2_with (first | ((with_reducible apply sl_want); exact rfl) | ((with_reducible apply sl_load HM); exact rfl; infer_instance; infer_instance; (try simp only [Act.put, List.setIfInBounds_toArray, List.set_cons_zero, List.set_cons_succ])))
  refine wp_drawnM HM [cells g3 [.pointer (some ⟨gt, 0, none⟩)] 86, cells g4 (StE.cells ⟨3, (i : Int), xr, taken⟩) 92, cells gt [.pointer (some ⟨g, 0, none⟩), .pointer (some ⟨gr, 0, none⟩), .slice (some ad) bl.length cb, .slice Aa T.ans.length ca, .slice Af n cf, .slice At n ct] 90, qrow (.slice (some ad) bl.length cb) 61 3 bl.length (bts 9 bl)] [] [(0, 0), (1, 1), (2, 1), (3, 0), (4, 1), (5, 0), (6, 1), (7, 0), (8, 2), (9, 2)] (by kernel_rfl) (by kernel_rfl) (by kernel_rfl) (by kernel_rfl) (fun _ _ d _ _ h => by cases d <;> exact h) ?_; clear HM; (try clear wq); intro wq HM
  repeat (first | ((with_reducible apply t_load HM); exact rfl; exact rfl; exact rfl; infer_instance; infer_instance; infer_instance; (try simp only [Act.put, List.setIfInBounds_toArray, List.set_cons_zero, List.set_cons_succ])) | ((with_reducible apply t_loadH HM); exact rfl; exact rfl; exact rfl; assumption; infer_instance; infer_instance; (try simp only [Act.put, List.setIfInBounds_toArray, List.set_cons_zero, List.set_cons_succ])) | ((with_reducible apply t_pure); exact rfl; exact rfl; (focus (intro wv; go_simp; (try (go_ints; (try go_simp))); (first | rfl))); (try simp only [Act.put, List.setIfInBounds_toArray, List.set_cons_zero, List.set_cons_succ])) | ((with_reducible apply t_eff); exact rfl; exact rfl; intro K hK; (with_reducible apply ow_alloc HM); infer_instance; clear HM; (try clear wq); intro g8 wq HM; refine hK _ _ _ HM inferInstance ?_; clear hK K; (try simp only [Act.put, List.setIfInBounds_toArray, List.set_cons_zero, List.set_cons_succ])) | ((with_reducible apply t_eff); exact rfl; exact rfl; intro K hK; (with_reducible apply ow_store HM); exact rfl; (first | exact Ev.tmp rfl); infer_instance; infer_instance; infer_instance; clear HM; (try clear wq); intro  wq HM; refine hK _ _ _ HM inferInstance ?_; clear hK K; (try simp only [Act.put, List.setIfInBounds_toArray, List.set_cons_zero, List.set_cons_succ])))
  refine t_nil ?_
  go_wp2_with (first | ((with_reducible refine gate_dst (N := 217) rfl ?_); (with_reducible apply sl_append_lit HM); (first | exact Ev.const); infer_instance; (first | exact Ev.const); infer_instance; infer_instance; exact rfl; infer_instance; (first | (simp only [List.length_append, List.length_cons, List.length_nil] at *; omega)); clear HM; (try clear wq); intro v217 wq HM; (try simp only [Act.put, List.setIfInBounds_toArray, List.set_cons_zero, List.set_cons_succ]); haveI := HM.rowOne v217))
  refine wp_drawnM HM [cells g3 [.pointer (some ⟨gt, 0, none⟩)] 86, cells g4 (StE.cells ⟨3, (i : Int), xr, taken⟩) 92, cells gt [.pointer (some ⟨g, 0, none⟩), .pointer (some ⟨gr, 0, none⟩), .slice (some ad) bl.length cb, .slice Aa T.ans.length ca, .slice Af n cf, .slice At n ct] 90] [21] [(0, 0), (1, 0), (2, 1), (3, 1), (4, 0), (5, 1), (6, 0), (7, 1), (8, 0), (9, 1), (10, 0), (11, 1), (12, 1), (13, 0), (14, 1), (15, 0), (16, 1), (17, 1), (18, 2), (19, 1), (20, 1), (21, 3)] (by kernel_rfl) (by kernel_rfl) (by kernel_rfl) (by kernel_rfl) (fun _ _ d _ _ h => by cases d <;> exact h) ?_; clear HM; (try clear wq); intro wq HM
  repeat (first | ((with_reducible refine t_at (n := 17) rfl ?_); (with_reducible apply t_subL (sz := 3) ((i + 1))); exact rfl; exact rfl; (first | exact Ev.tmp rfl); (first | exact Ev.tmp rfl); exact Try.underlying71; (focus kernel_rfl); omega; (try simp only [Act.put, List.setIfInBounds_toArray, List.set_cons_zero, List.set_cons_succ])) | ((with_reducible refine t_at (n := 18) rfl ?_); (with_reducible apply t_eff); exact rfl; exact rfl; intro K hK; have HMc : SL.Mod B w0 (qrow (.slice (some ad) bl.length cb) 61 3 bl.length (bts 9 bl) :: _) _ := HM.pick (qrow (.slice (some ad) bl.length cb) 61 3 bl.length (bts 9 bl)); (with_reducible apply ow_cut HMc hil); (first | exact Ev.tmp rfl); (first | exact Ev.tmp rfl); infer_instance; infer_instance; omega; clear HM HMc; (try clear wq); intro v139 wq HM; haveI := HM.qOne; refine hK _ _ _ HM inferInstance ?_; clear hK K; (try simp only [Act.put, List.setIfInBounds_toArray, List.set_cons_zero, List.set_cons_succ])) | ((with_reducible refine t_at (n := 21) rfl ?_); ((with_reducible apply t_last); exact rfl; exact rfl; intro K hK; (with_reducible apply ow_store HM); exact rfl; (first | exact Ev.tmp rfl); infer_instance; infer_instance; infer_instance; clear HM; (try clear wq); intro  wq HM; refine hK _ _ ?_; clear hK K; (try simp only [Act.put, List.setIfInBounds_toArray, List.set_cons_zero, List.set_cons_succ]))) | ((with_reducible apply t_load HM); exact rfl; exact rfl; exact rfl; infer_instance; infer_instance; infer_instance; (try simp only [Act.put, List.setIfInBounds_toArray, List.set_cons_zero, List.set_cons_succ])) | ((with_reducible apply t_pure); exact rfl; exact rfl; (focus (intro wv; go_simp; (try (go_ints; (try go_simp))); (first | rfl | (rw [if_pos (by omega)]; done)))); (try simp only [Act.put, List.setIfInBounds_toArray, List.set_cons_zero, List.set_cons_succ])))
  refine t_nil ?_
  go_wp2_with (first | ((with_reducible apply sl_load HM); exact rfl; infer_instance; infer_instance; (try simp only [Act.put, List.setIfInBounds_toArray, List.set_cons_zero, List.set_cons_succ])))
  refine bodyPost_end (results_none rfl _ _ _) rfl (show StepPost g gr gt T N _ now B w0 H _ _ from ⟨rfl, ?_⟩)
  rw [E.out]
  have e1 : (bts 9 bl).take (i * 3) ++ (bts 9 bl).drop ((i + 1) * 3) = bts 9 (bl.eraseIdx i) := (flat_erase (bt_len 9) bl i hil).symm
  have e2 : bl.length - 1 = (bl.eraseIdx i).length := by rw [List.length_eraseIdx, if_pos hil]
  rw [e1, e2] at HM
  have HM2 := (HM.pick (frz (itB bl))).frzSub (L' := itB (bl.eraseIdx i)) (fun p hp => by
    unfold itB at hp ⊢
    obtain ⟨z, hz, rfl⟩ := List.mem_map.1 hp
    exact List.mem_map.2 ⟨z, (List.eraseIdx_sublist bl i).subset hz, rfl⟩)
  have HM3 : SL.Mod B w0 (tlkL g gr gt S T.r v139 (.slice Aa T.ans.length ca) (bl.eraseIdx i) T.ans Af cf At ct n fl tk H) _ := HM2.sub
  exact Mod.closeTlk HM3 H1.out (by rw [map_erase, H2.out]) (by have := H3.out; omega) H4.out H5.out rfl rfl
end Go.Proofs.Ytghfoooldcbdnaa
