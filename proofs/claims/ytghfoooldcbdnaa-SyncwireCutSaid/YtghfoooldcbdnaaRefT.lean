/-
  THE DOCUMENT's ANSWER FOR LAYER 14: a record's text.
-/
import Derived.Test.YtghfoooldcbdnaaRef
set_option linter.unusedVariables false
set_option linter.unusedSimpArgs false
namespace Go.Proofs.Ytghfoooldcbdnaa
open Go.RowKit Go.Proofs.Ytghfoooldcbdnaa.SL Go.Proofs.YtghfoooldcbdnaaW.PrintWords

theorem str_app (a b : List Int) : strOfNums a ++ strOfNums b = strOfNums (a ++ b) := by
  apply ByteArray.ext
  simp [strOfNums, ByteArray.data_append]
theorem str_of (s : ByteArray) : s = strOfNums (bytesOf s) := by
  apply ByteArray.ext
  apply Array.ext'
  simp [strOfNums, bytesOf, Function.comp_def]
theorem str_len (a : List Int) : (strOfNums a).size = a.length := strOfNums_size a
theorem beB_one (n : Int) : beB 1 n = [n % 256] := by simp [beB]
theorem text_eq (x : Rec) : (((((((strOfNums (beB 1 x.pr) ++ strOfNums (beB 1 (x.fr.size : Int))) ++ x.fr) ++ x.tt) ++ strOfNums (beB 2 x.po)) ++ strOfNums (beB 2 x.de)) ++ strOfNums (beB 1 x.ba)) ++ strOfNums (beB 1 x.st)) ++ strOfNums (beB 2 x.le) = strOfNums (recB x) := by
  rw [show strOfNums (beB 1 x.pr) ++ strOfNums (beB 1 (x.fr.size : Int)) ++ x.fr ++ x.tt = strOfNums (beB 1 x.pr) ++ strOfNums (beB 1 (x.fr.size : Int)) ++ strOfNums (bytesOf x.fr) ++ strOfNums (bytesOf x.tt) from by rw [← str_of, ← str_of]]
  simp only [str_app, recB, beB_one, List.append_assoc, List.cons_append, List.nil_append]
theorem low1 (n : Int) (hn : 0 ≤ n) (hn2 : n ≤ 18446744073709551615) (w : World) : Calls Try.prog 85 #[.int .u64 n, .int .i64 1] w fun e w' => e = .returned (.string (strOfNums (beB 1 n))) ∧ Mod w.heap.size w [] w' := low_calls n 1 hn hn2 (by decide) w
theorem low2 (n : Int) (hn : 0 ≤ n) (hn2 : n ≤ 18446744073709551615) (w : World) : Calls Try.prog 85 #[.int .u64 n, .int .i64 2] w fun e w' => e = .returned (.string (strOfNums (beB 2 n))) ∧ Mod w.heap.size w [] w' := low_calls n 2 hn hn2 (by decide) w
theorem low8 (n : Int) (hn : 0 ≤ n) (hn2 : n ≤ 18446744073709551615) (w : World) : Calls Try.prog 85 #[.int .u64 n, .int .i64 8] w fun e w' => e = .returned (.string (strOfNums (beB 8 n))) ∧ Mod w.heap.size w [] w' := low_calls n 8 hn hn2 (by decide) w
/-- The bounds of a record that may be. -/
theorem rec_all {x : Rec} (h : x.ok = true) : (0 ≤ x.pr ∧ x.pr ≤ 255) ∧ (x.fr.size = 4 ∨ x.fr.size = 16) ∧ x.fr.size = x.tt.size ∧ (0 ≤ x.po ∧ x.po ≤ 65535) ∧ (0 ≤ x.de ∧ x.de ≤ 65535) ∧ (0 ≤ x.ba ∧ x.ba ≤ 15) ∧ (1 ≤ x.st ∧ x.st ≤ 4) ∧ (0 ≤ x.le ∧ x.le ≤ 65535) := by
  simp only [Rec.ok, inB, okA, Bool.and_eq_true, Bool.or_eq_true, decide_eq_true_eq, beq_iff_eq] at h
  omega

set_option maxHeartbeats 4000000 in
set_option maxRecDepth 100000 in
theorem text_calls (x : Rec) (hok : x.ok = true) (w : World) : Calls Try.prog 90 #[.agg x.cells.toArray] w fun e w' => e = .returned (.string (strOfNums (recB x))) ∧ Mod w.heap.size w [] w' := by
  have HM := Mod.start w
  obtain ⟨⟨p0, p1⟩, hs, ht, ⟨o0, o1⟩, ⟨d0, d1⟩, ⟨b0, b1⟩, ⟨s0, s1⟩, ⟨l0, l1⟩⟩ := rec_all hok
  have hz : x.fr.size ≤ 16 := by omega
  have hzt : x.tt.size ≤ 16 := by omega
  have s00 : 0 ≤ x.st := by omega
  have HE := Aside0.mk (text_eq x)
  clear hok hs ht
  go_enter Try.func90, Try.ntmps90
  go_wp2_with (first | go_step3 | ((with_reducible apply sl_want); exact rfl) | ((with_reducible apply sl_load HM); exact rfl; infer_instance; infer_instance; (try simp only [Act.put, List.setIfInBounds_toArray, List.set_cons_zero, List.set_cons_succ])) | ((with_reducible apply sl_store HM); exact rfl; (first | exact Ev.tmp rfl | exact Ev.const); infer_instance; infer_instance; infer_instance; clear HM; (try clear wq); intro wq HM; (try simp only [Act.put, List.setIfInBounds_toArray, List.set_cons_zero, List.set_cons_succ])) | ((with_reducible apply sl_loadR); exact rfl; assumption; (try simp only [Act.put, List.setIfInBounds_toArray, List.set_cons_zero, List.set_cons_succ])) | ((with_reducible apply sl_loadH HM); exact rfl; assumption; infer_instance; (try simp only [Act.put, List.setIfInBounds_toArray, List.set_cons_zero, List.set_cons_succ])) | ((with_reducible refine gate_dst (N := 1) rfl ?_); (with_reducible apply sl_box HM); (first | exact Ev.tmp rfl | exact Ev.const); exact rfl; clear HM; (try clear wq); intro g1 wq HM; (try simp only [Act.put, List.setIfInBounds_toArray, List.set_cons_zero, List.set_cons_succ])) | ((with_reducible refine gate_dst (N := 3) rfl ?_); (with_reducible apply sl_alloc HM); infer_instance; clear HM; (try clear wq); intro g3 wq HM; (try simp only [Act.put, List.setIfInBounds_toArray, List.set_cons_zero, List.set_cons_succ])))
  refine wp_drawnS HM [] [(0, 1), (1, 0), (2, 1), (4, 1), (5, 0), (6, 1), (7, 1), (10, 1), (11, 0), (13, 1), (14, 0), (16, 1), (17, 0), (18, 1), (21, 1), (22, 0), (23, 1), (26, 1), (27, 0), (28, 1), (31, 1), (32, 0), (33, 1), (36, 1), (37, 0), (38, 1), (3, 2), (8, 2), (9, 1), (12, 1), (15, 1), (19, 2), (20, 1), (24, 2), (25, 1), (29, 2), (30, 1), (34, 2), (35, 1), (39, 2), (40, 1), (41, 1)] (by kernel_rfl) (by kernel_rfl) (by kernel_rfl) (by kernel_rfl) (fun _ _ d _ _ h => by cases d <;> exact h) ?_; clear HM; (try clear wq); intro wq HM
  repeat (first | ((with_reducible apply t_eff); exact rfl; exact rfl; intro K hK; go_simp; go_at_call 85; (with_reducible refine (low1 _ (by omega) (by omega) _).mono ?_); rintro e wq ⟨rfl, hj⟩; have HM1 := HM.step hj.below; clear HM hj; have HM := HM1; clear HM1; refine hK _ _ _ HM inferInstance ?_; clear hK K; (try simp only [Act.put, List.setIfInBounds_toArray, List.set_cons_zero, List.set_cons_succ])) | ((with_reducible apply t_eff); exact rfl; exact rfl; intro K hK; go_simp; go_at_call 85; (with_reducible refine (low2 _ (by omega) (by omega) _).mono ?_); rintro e wq ⟨rfl, hj⟩; have HM1 := HM.step hj.below; clear HM hj; have HM := HM1; clear HM1; refine hK _ _ _ HM inferInstance ?_; clear hK K; (try simp only [Act.put, List.setIfInBounds_toArray, List.set_cons_zero, List.set_cons_succ])) | ((with_reducible apply t_eff); exact rfl; exact rfl; intro K hK; go_simp; go_at_call 85; (with_reducible refine (low8 _ (by omega) (by omega) _).mono ?_); rintro e wq ⟨rfl, hj⟩; have HM1 := HM.step hj.below; clear HM hj; have HM := HM1; clear HM1; refine hK _ _ _ HM inferInstance ?_; clear hK K; (try simp only [Act.put, List.setIfInBounds_toArray, List.set_cons_zero, List.set_cons_succ])) | ((with_reducible apply t_pure); exact rfl; exact rfl; (focus (intro wv; go_simp; (try simp only [ByteArray.size_append, str_len, beB_len, List.length_append, headB_len]); (rw [if_neg (by omega)]))); (try simp only [Act.put, List.setIfInBounds_toArray, List.set_cons_zero, List.set_cons_succ])) | ((with_reducible apply t_move); exact rfl; exact rfl; (first | exact Ev.tmp rfl | exact Ev.const); (try simp only [Act.put, List.setIfInBounds_toArray, List.set_cons_zero, List.set_cons_succ])) | ((with_reducible apply t_assign); exact rfl; exact rfl; (first | exact Ev.tmp rfl | exact Ev.const); (try simp only [Act.put, List.setIfInBounds_toArray, List.set_cons_zero, List.set_cons_succ])) | ((with_reducible apply t_load HM); exact rfl; exact rfl; exact rfl; infer_instance; infer_instance; infer_instance; (try simp only [Act.put, List.setIfInBounds_toArray, List.set_cons_zero, List.set_cons_succ])) | ((with_reducible apply t_loadH HM); exact rfl; exact rfl; exact rfl; assumption; infer_instance; infer_instance; (try simp only [Act.put, List.setIfInBounds_toArray, List.set_cons_zero, List.set_cons_succ])) | ((with_reducible apply t_skip); exact rfl; exact rfl; (try simp only [Act.put, List.setIfInBounds_toArray, List.set_cons_zero, List.set_cons_succ])) | ((with_reducible apply t_skip0 HM); exact rfl; exact rfl; infer_instance; (try simp only [Act.put, List.setIfInBounds_toArray, List.set_cons_zero, List.set_cons_succ])) | ((with_reducible apply t_skip2 HM); exact rfl; exact rfl; infer_instance; (try simp only [Act.put, List.setIfInBounds_toArray, List.set_cons_zero, List.set_cons_succ])) | ((with_reducible apply t_pure); exact rfl; exact rfl; (focus (intro wv; go_simp; (try (go_ints; (try go_simp))); (first | done | rfl | (rw [if_pos (by omega)]; done)))); (try simp only [Act.put, List.setIfInBounds_toArray, List.set_cons_zero, List.set_cons_succ])))
  refine t_nil ?_
  go_wp2_with (fail)
  refine sl_ret1 rfl (vals_tmp rfl .nil) ⟨?_, HM.sub⟩
  rw [← HE.out]
end Go.Proofs.Ytghfoooldcbdnaa
