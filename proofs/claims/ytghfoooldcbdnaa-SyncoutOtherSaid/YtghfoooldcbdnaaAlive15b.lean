/-
  THE TRIAL OF PACKAGE outriderlaw15, walked.
-/
import Derived.Test.YtghfoooldcbdnaaAlive15
set_option linter.unusedVariables false
set_option linter.unusedSimpArgs false
namespace Go.Proofs.Ytghfoooldcbdnaa
open Go.RowKit Go.Proofs.Ytghfoooldcbdnaa.SL Go.Proofs.YtghfoooldcbdnaaW.PrintWords
theorem bt_one {bl : List Bt} {n : Int} {l : List Rec} (h : bl.map Bt.v = [(n, l)]) : ∃ A c, bl = [⟨n, l, A, c⟩] := by
  cases bl with
  | nil => simp at h
  | cons b t =>
    cases t with
    | cons _ _ => simp at h
    | nil =>
      obtain ⟨bn, bl, bA, bc⟩ := b
      simp [Bt.v] at h
      obtain ⟨rfl, rfl⟩ := h
      exact ⟨bA, bc, rfl⟩
theorem one15_calls2 (B : Nat) (w0 w : World) (H : List As) (HM : SL.Mod B w0 H w) : Calls Try.prog 65 #[] w fun e w' => e = .returned (.agg #[.int .i64 6, .string ⟨#[49, 50, 51, 52]⟩, .string ⟨#[53, 54, 55, 56]⟩, .int .i64 1, .int .i64 0, .int .i64 0, .int .i64 1, .int .i64 9]) ∧ SL.Mod B w0 H w' := one15_calls B w0 w H HM
set_option maxRecDepth 100000 in
theorem field51 (a b c d e f g h : Value) (w : World) : (Instr.field 53 (.agg #[a, b, c, d, e, f, g, h]) 0).run Try.prog w = .ok (.agg #[a, b, c, d, e]) w := by
  have hs : (sizeOf 51).run Try.prog w = .ok 5 w := SL.run_sizeOf (by kernel_rfl)
  have hg : (isAgg 51).run Try.prog w = .ok true w := by simp [isAgg, run_underlying Try.underlying51]
  unfold Instr.field
  simp only [Sem.run_bind, run_underlying Try.underlying53, Result.andThen_ok]
  show ((part 51 #[a, b, c, d, e, f, g, h] 0).run Try.prog w) = _
  unfold part
  simp only [Sem.run_bind, hg, hs, Result.andThen_ok, if_true, Sem.run_pure]
  rfl
section
attribute [local go_sem] field51
set_option maxHeartbeats 4000000 in
set_option maxRecDepth 100000 in
theorem alive15_calls (W : World) : Calls Try.prog 32 #[] W fun e w' => e = .returned (.bool true) ∧ SL.Mod W.heap.size W [] w' := by
  have HM := Mod.start W
  go_enter Try.func32, Try.ntmps32
  go_wp2_with first | (go_at_call 30; refine (sndNew_ok 1 10 (by decide) _).mono ?_; rintro e wq ⟨g, rfl, hj⟩; have HM1 := HM.join hj; clear HM hj; have HM := HM1; clear HM1; simp only [List.cons_append, List.nil_append] at HM; obtain ⟨S0, hS⟩ : ∃ S0, S0 = SS.new 1 10 := ⟨_, rfl⟩; rw [← hS] at HM; have HP0 : Aside0 (S0.p = tP0) := ⟨by rw [hS]; rfl⟩; clear hS) | (go_at_call 65; refine (one15_calls2 W.heap.size W _ _ HM).mono ?_; rintro e wq ⟨rfl, HM1⟩; clear HM; have HM := HM1; clear HM1) | (go_at_call 33; refine (AddK (S := S0) (k := 0) one15 (by rw [HP0.out]; exact t_ok0) (by decide) (by decide) HM).mono ?_; rintro e wq ⟨S1, rfl, h1, HM1⟩; clear HM; have HM := HM1; clear HM1; rw [HP0.out, t_add]; have HP1 : Aside0 (S1.p = tP1) := ⟨by rw [h1, HP0.out]; rfl⟩; clear h1) | (go_at_call 34; have HMq : SL.Mod W.heap.size W (snd g S1 :: _) _ := HM.pick (snd g S1); refine (SendK (S := S1) (k := 1) 0 (by rw [HP1.out]; exact t_ok1) (by omega) HMq).mono ?_; clear HMq; rintro e wq ⟨v24, bl24, S2, rfl, h1, h2, HM1⟩; clear HM; have HM := HM1; clear HM1; have HP2 : Aside0 (S2.p = tP2) := ⟨by rw [h1, HP1.out]; rfl⟩; have HB24 := Aside0.mk h2; clear h1 h2; haveI := HM.rowOne v24) | (go_at_call 34; have HMq : SL.Mod W.heap.size W (snd g S2 :: _) _ := HM.pick (snd g S2); refine (SendK (S := S2) (k := 1) 5 (by rw [HP2.out]; exact t_ok2) (by omega) HMq).mono ?_; clear HMq; rintro e wq ⟨v26, bl26, S3, rfl, h1, h2, HM1⟩; clear HM; have HM := HM1; clear HM1; have HP3 : Aside0 (S3.p = tP3) := ⟨by rw [h1, HP2.out]; rfl⟩; have HB26 := Aside0.mk h2; clear h1 h2; haveI := HM.rowOne v26) | (go_at_call 34; have HMq : SL.Mod W.heap.size W (snd g S3 :: _) _ := HM.pick (snd g S3); refine (SendK (S := S3) (k := 1) 10 (by rw [HP3.out]; exact t_ok3) (by omega) HMq).mono ?_; clear HMq; rintro e wq ⟨v28, bl28, S4, rfl, h1, h2, HM1⟩; clear HM; have HM := HM1; clear HM1; have HP4 : Aside0 (S4.p = tP4) := ⟨by rw [h1, HP3.out]; rfl⟩; have HB28 := Aside0.mk h2; clear h1 h2; haveI := HM.rowOne v28) | (first | go_step3 | ((with_reducible apply sl_want); exact rfl) | ((with_reducible apply sl_load HM); exact rfl; infer_instance; infer_instance; (try simp only [Act.put, List.setIfInBounds_toArray, List.set_cons_zero, List.set_cons_succ])) | ((with_reducible apply sl_store HM); exact rfl; (first | exact Ev.tmp rfl | exact Ev.const); infer_instance; infer_instance; infer_instance; clear HM; (try clear wq); intro wq HM; (try simp only [Act.put, List.setIfInBounds_toArray, List.set_cons_zero, List.set_cons_succ])) | ((with_reducible apply sl_loadR); exact rfl; assumption; (try simp only [Act.put, List.setIfInBounds_toArray, List.set_cons_zero, List.set_cons_succ])) | ((with_reducible apply sl_loadH HM); exact rfl; assumption; infer_instance; (try simp only [Act.put, List.setIfInBounds_toArray, List.set_cons_zero, List.set_cons_succ])))
  have hb24 := HB24.out
  have hb26 := HB26.out
  have hb28 := HB28.out
  rw [HP1.out, t_s0] at hb24
  rw [HP2.out, t_s5] at hb26
  rw [HP3.out, t_s10] at hb28
  obtain ⟨Ab, cb, rfl⟩ := bt_one hb24
  obtain ⟨Ad, cd, rfl⟩ := bt_one hb28
  have hb26' := List.map_eq_nil_iff.1 hb26
  subst hb26'
  clear hb24 hb26 hb28 HB24 HB26 HB28
  obtain ⟨A24, c24, rfl, _⟩ := row_slice (HM.rowOwn v24)
  obtain ⟨A26, c26, rfl, _⟩ := row_slice (HM.rowOwn v26)
  obtain ⟨A28, c28, rfl, _⟩ := row_slice (HM.rowOwn v28)
  obtain ⟨ad, rfl⟩ := (ownsRow_reads (HM.rowOwn (.slice A24 [(⟨1, [one15], Ab, cb⟩ : Bt)].length c24))).1.addr (by simp)
  have hld : Aside0 (∀ w', SL.Mod W.heap.size W [row (.slice (some ad) 1 c24) 61 3 1 (bts S1.s [(⟨1, [one15], Ab, cb⟩ : Bt)])] w' → Sem.run Try.prog (Instr.loadAt 3 (.pointer (some (ad.add 1)))) w' = .ok (.int .i64 1) w') := ⟨fun w' h => load_one (ownsRow_reads (h.rowOwn (.slice (some ad) 1 c24))).1 1 rfl⟩
  simp only [List.length_singleton, List.length_nil] at HM ⊢
  refine (TakeK (S := S4) (k := 1) 1 1 0 10 false (by rw [HP4.out]; exact t_ok4) (by omega) HM).mono ?_
  rintro e wq ⟨S5, rfl, h1, HM1⟩
  clear HM
  have HM := HM1
  clear HM1
  rw [HP4.out, t_take]
  have HP5 : Aside0 (S5.p = tP5) := ⟨by rw [h1, HP4.out]; rfl⟩
  have HS5 : Aside0 (S5.s = 1) := ⟨by have := HP5.out; rw [show S5.s = S5.p.s from rfl, this]; exact t_sess⟩
  clear h1
  (try dsimp only)
  go_wp2_with first | (go_at_call 65; refine (one15_calls2 W.heap.size W _ _ HM).mono ?_; rintro e wq ⟨rfl, HM1⟩; clear HM; have HM := HM1; clear HM1) | (go_at_call 45; refine (KnownK (S := S5) one15.fl HM).mono ?_; rintro e wq ⟨rfl, HM1⟩; clear HM; have HM := HM1; clear HM1; rw [HP5.out, t_known]) | (go_at_call 57; refine (Session_calls g S5 W.heap.size W _ _ HM).mono ?_; rintro e wq ⟨rfl, HM1⟩; clear HM; have HM := HM1; clear HM1; rw [HS5.out]) | (first | go_step3 | ((with_reducible apply sl_want); exact rfl) | ((with_reducible apply sl_load HM); exact rfl; infer_instance; infer_instance; (try simp only [Act.put, List.setIfInBounds_toArray, List.set_cons_zero, List.set_cons_succ])) | ((with_reducible apply sl_store HM); exact rfl; (first | exact Ev.tmp rfl | exact Ev.const); infer_instance; infer_instance; infer_instance; clear HM; (try clear wq); intro wq HM; (try simp only [Act.put, List.setIfInBounds_toArray, List.set_cons_zero, List.set_cons_succ])) | ((with_reducible apply sl_loadR); exact rfl; assumption; (try simp only [Act.put, List.setIfInBounds_toArray, List.set_cons_zero, List.set_cons_succ])) | ((with_reducible apply sl_loadH HM); exact rfl; assumption; infer_instance; (try simp only [Act.put, List.setIfInBounds_toArray, List.set_cons_zero, List.set_cons_succ])))
  exact sl_ret1 rfl (vals_tmp rfl .nil) ⟨rfl, HM.sub⟩
end
end Go.Proofs.Ytghfoooldcbdnaa
