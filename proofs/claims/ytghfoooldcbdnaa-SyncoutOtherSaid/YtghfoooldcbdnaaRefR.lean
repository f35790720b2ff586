/-
  THE DOCUMENT's ANSWER FOR LAYER 14: which records may be.
-/
import Derived.Test.YtghfoooldcbdnaaOps
import Derived.Test.YtghfoooldcbdnaaEnc
import Derived.Outline
set_option linter.unusedVariables false
set_option linter.unusedSimpArgs false
namespace Go.Proofs.Ytghfoooldcbdnaa
open Go.RowKit Go.Proofs.Ytghfoooldcbdnaa.SL Go.Proofs.YtghfoooldcbdnaaW.PrintWords

set_option maxHeartbeats 400000 in
theorem right3_calls (s : ByteArray) (hs : s.size ≤ maxLen) (w : World) : Calls Try.prog 82 #[.string s] w fun e w' => e = .returned (.bool (okA s)) ∧ w = w' := by
  unfold maxLen at hs
  have E : Aside0 (okA s = ((s.size : Int) == 4 || (s.size : Int) == 16)) := ⟨by unfold okA; rw [Bool.eq_iff_iff]; simp; omega⟩
  go_enter Try.func82, Try.ntmps82
  go_wp2
  all_goals (refine sl_ret1 rfl (vals_tmp rfl .nil) ⟨by first | (rw [E.out]; done) | (rw [E.out]; simp [*]), rfl⟩)

set_option maxHeartbeats 16000000 in
set_option maxRecDepth 100000 in
theorem right14_calls (x : Rec) (h1 : x.fr.size ≤ maxLen) (h2 : x.tt.size ≤ maxLen) (w : World) : Calls Try.prog 44 #[.agg x.cells.toArray] w fun e w' => e = .returned (.bool x.ok) ∧ Mod w.heap.size w [] w' := by
  have HM := Mod.start w
  have HF := Aside0.mk h1
  have HT := Aside0.mk h2
  unfold maxLen at h1 h2
  by_cases c0 : x.pr < 0
  · skip
    have E : Aside0 (x.ok = false) := ⟨by rw [Bool.eq_false_iff]; intro h; simp only [Rec.ok, inB, Bool.and_eq_true, decide_eq_true_eq, beq_iff_eq] at h; omega⟩
    have b0 : decide (x.pr < 0) = true := by simpa using c0
    clear c0
    go_enter Try.func44, Try.ntmps44
    go_wp2_with (first | (go_at_call 82; (with_reducible refine (right3_calls x.fr HF.out _).mono ?_); rintro e w1 ⟨rfl, rfl⟩) | (go_at_call 82; (with_reducible refine (right3_calls x.tt HT.out _).mono ?_); rintro e w1 ⟨rfl, rfl⟩) | go_step3 | ((with_reducible apply sl_want); exact rfl) | ((with_reducible apply sl_load HM); exact rfl; infer_instance; infer_instance; (try simp only [Act.put, List.setIfInBounds_toArray, List.set_cons_zero, List.set_cons_succ])) | ((with_reducible apply sl_store HM); exact rfl; (first | exact Ev.tmp rfl | exact Ev.const); infer_instance; infer_instance; infer_instance; clear HM; (try clear wq); intro wq HM; (try simp only [Act.put, List.setIfInBounds_toArray, List.set_cons_zero, List.set_cons_succ])) | ((with_reducible apply sl_loadR); exact rfl; assumption; (try simp only [Act.put, List.setIfInBounds_toArray, List.set_cons_zero, List.set_cons_succ])) | ((with_reducible apply sl_loadH HM); exact rfl; assumption; infer_instance; (try simp only [Act.put, List.setIfInBounds_toArray, List.set_cons_zero, List.set_cons_succ])) | ((with_reducible refine gate_dst (N := 1) rfl ?_); (with_reducible apply sl_box HM); (first | exact Ev.tmp rfl | exact Ev.const); exact rfl; clear HM; (try clear wq); intro g1 wq HM; (try simp only [Act.put, List.setIfInBounds_toArray, List.set_cons_zero, List.set_cons_succ])) | ((with_reducible refine gate_dst (N := 3) rfl ?_); (with_reducible apply sl_alloc HM); infer_instance; clear HM; (try clear wq); intro g3 wq HM; (try simp only [Act.put, List.setIfInBounds_toArray, List.set_cons_zero, List.set_cons_succ])))
    exact sl_ret1 rfl (vals_tmp rfl .nil) ⟨by rw [E.out], HM.sub⟩
  · skip
    by_cases c1 : 255 < x.pr
    · skip
      have E : Aside0 (x.ok = false) := ⟨by rw [Bool.eq_false_iff]; intro h; simp only [Rec.ok, inB, Bool.and_eq_true, decide_eq_true_eq, beq_iff_eq] at h; omega⟩
      have b0 : decide (x.pr < 0) = false := by simpa using c0
      have b1 : decide (255 < x.pr) = true := by simpa using c1
      clear c0 c1
      go_enter Try.func44, Try.ntmps44
      go_wp2_with (first | (go_at_call 82; (with_reducible refine (right3_calls x.fr HF.out _).mono ?_); rintro e w1 ⟨rfl, rfl⟩) | (go_at_call 82; (with_reducible refine (right3_calls x.tt HT.out _).mono ?_); rintro e w1 ⟨rfl, rfl⟩) | go_step3 | ((with_reducible apply sl_want); exact rfl) | ((with_reducible apply sl_load HM); exact rfl; infer_instance; infer_instance; (try simp only [Act.put, List.setIfInBounds_toArray, List.set_cons_zero, List.set_cons_succ])) | ((with_reducible apply sl_store HM); exact rfl; (first | exact Ev.tmp rfl | exact Ev.const); infer_instance; infer_instance; infer_instance; clear HM; (try clear wq); intro wq HM; (try simp only [Act.put, List.setIfInBounds_toArray, List.set_cons_zero, List.set_cons_succ])) | ((with_reducible apply sl_loadR); exact rfl; assumption; (try simp only [Act.put, List.setIfInBounds_toArray, List.set_cons_zero, List.set_cons_succ])) | ((with_reducible apply sl_loadH HM); exact rfl; assumption; infer_instance; (try simp only [Act.put, List.setIfInBounds_toArray, List.set_cons_zero, List.set_cons_succ])) | ((with_reducible refine gate_dst (N := 1) rfl ?_); (with_reducible apply sl_box HM); (first | exact Ev.tmp rfl | exact Ev.const); exact rfl; clear HM; (try clear wq); intro g1 wq HM; (try simp only [Act.put, List.setIfInBounds_toArray, List.set_cons_zero, List.set_cons_succ])) | ((with_reducible refine gate_dst (N := 3) rfl ?_); (with_reducible apply sl_alloc HM); infer_instance; clear HM; (try clear wq); intro g3 wq HM; (try simp only [Act.put, List.setIfInBounds_toArray, List.set_cons_zero, List.set_cons_succ])))
      exact sl_ret1 rfl (vals_tmp rfl .nil) ⟨by rw [E.out], HM.sub⟩
    · skip
      by_cases c2 : okA x.fr = true
      · skip
        by_cases c3 : okA x.tt = true
        · skip
          by_cases c4 : x.fr.size ≠ x.tt.size
          · skip
            have E : Aside0 (x.ok = false) := ⟨by rw [Bool.eq_false_iff]; intro h; simp only [Rec.ok, inB, Bool.and_eq_true, decide_eq_true_eq, beq_iff_eq] at h; omega⟩
            have b0 : decide (x.pr < 0) = false := by simpa using c0
            have b1 : decide (255 < x.pr) = false := by simpa using c1
            have b2 : okA x.fr = true := by simpa using c2
            have b3 : okA x.tt = true := by simpa using c3
            have b4 : ((x.fr.size : Int) != (x.tt.size : Int)) = true := by simp; omega
            have d4 : ((x.fr.size : Int) == (x.tt.size : Int)) = false := by simp; omega
            clear c0 c1 c2 c3 c4
            go_enter Try.func44, Try.ntmps44
            go_wp2_with (first | (go_at_call 82; (with_reducible refine (right3_calls x.fr HF.out _).mono ?_); rintro e w1 ⟨rfl, rfl⟩) | (go_at_call 82; (with_reducible refine (right3_calls x.tt HT.out _).mono ?_); rintro e w1 ⟨rfl, rfl⟩) | go_step3 | ((with_reducible apply sl_want); exact rfl) | ((with_reducible apply sl_load HM); exact rfl; infer_instance; infer_instance; (try simp only [Act.put, List.setIfInBounds_toArray, List.set_cons_zero, List.set_cons_succ])) | ((with_reducible apply sl_store HM); exact rfl; (first | exact Ev.tmp rfl | exact Ev.const); infer_instance; infer_instance; infer_instance; clear HM; (try clear wq); intro wq HM; (try simp only [Act.put, List.setIfInBounds_toArray, List.set_cons_zero, List.set_cons_succ])) | ((with_reducible apply sl_loadR); exact rfl; assumption; (try simp only [Act.put, List.setIfInBounds_toArray, List.set_cons_zero, List.set_cons_succ])) | ((with_reducible apply sl_loadH HM); exact rfl; assumption; infer_instance; (try simp only [Act.put, List.setIfInBounds_toArray, List.set_cons_zero, List.set_cons_succ])) | ((with_reducible refine gate_dst (N := 1) rfl ?_); (with_reducible apply sl_box HM); (first | exact Ev.tmp rfl | exact Ev.const); exact rfl; clear HM; (try clear wq); intro g1 wq HM; (try simp only [Act.put, List.setIfInBounds_toArray, List.set_cons_zero, List.set_cons_succ])) | ((with_reducible refine gate_dst (N := 3) rfl ?_); (with_reducible apply sl_alloc HM); infer_instance; clear HM; (try clear wq); intro g3 wq HM; (try simp only [Act.put, List.setIfInBounds_toArray, List.set_cons_zero, List.set_cons_succ])))
            exact sl_ret1 rfl (vals_tmp rfl .nil) ⟨by rw [E.out], HM.sub⟩
          · skip
            by_cases c5 : x.po < 0
            · skip
              have E : Aside0 (x.ok = false) := ⟨by rw [Bool.eq_false_iff]; intro h; simp only [Rec.ok, inB, Bool.and_eq_true, decide_eq_true_eq, beq_iff_eq] at h; omega⟩
              have b0 : decide (x.pr < 0) = false := by simpa using c0
              have b1 : decide (255 < x.pr) = false := by simpa using c1
              have b2 : okA x.fr = true := by simpa using c2
              have b3 : okA x.tt = true := by simpa using c3
              have b4 : ((x.fr.size : Int) != (x.tt.size : Int)) = false := by simp; omega
              have d4 : ((x.fr.size : Int) == (x.tt.size : Int)) = true := by simp; omega
              have b5 : decide (x.po < 0) = true := by simpa using c5
              clear c0 c1 c2 c3 c4 c5
              go_enter Try.func44, Try.ntmps44
              go_wp2_with (first | (go_at_call 82; (with_reducible refine (right3_calls x.fr HF.out _).mono ?_); rintro e w1 ⟨rfl, rfl⟩) | (go_at_call 82; (with_reducible refine (right3_calls x.tt HT.out _).mono ?_); rintro e w1 ⟨rfl, rfl⟩) | go_step3 | ((with_reducible apply sl_want); exact rfl) | ((with_reducible apply sl_load HM); exact rfl; infer_instance; infer_instance; (try simp only [Act.put, List.setIfInBounds_toArray, List.set_cons_zero, List.set_cons_succ])) | ((with_reducible apply sl_store HM); exact rfl; (first | exact Ev.tmp rfl | exact Ev.const); infer_instance; infer_instance; infer_instance; clear HM; (try clear wq); intro wq HM; (try simp only [Act.put, List.setIfInBounds_toArray, List.set_cons_zero, List.set_cons_succ])) | ((with_reducible apply sl_loadR); exact rfl; assumption; (try simp only [Act.put, List.setIfInBounds_toArray, List.set_cons_zero, List.set_cons_succ])) | ((with_reducible apply sl_loadH HM); exact rfl; assumption; infer_instance; (try simp only [Act.put, List.setIfInBounds_toArray, List.set_cons_zero, List.set_cons_succ])) | ((with_reducible refine gate_dst (N := 1) rfl ?_); (with_reducible apply sl_box HM); (first | exact Ev.tmp rfl | exact Ev.const); exact rfl; clear HM; (try clear wq); intro g1 wq HM; (try simp only [Act.put, List.setIfInBounds_toArray, List.set_cons_zero, List.set_cons_succ])) | ((with_reducible refine gate_dst (N := 3) rfl ?_); (with_reducible apply sl_alloc HM); infer_instance; clear HM; (try clear wq); intro g3 wq HM; (try simp only [Act.put, List.setIfInBounds_toArray, List.set_cons_zero, List.set_cons_succ])))
              exact sl_ret1 rfl (vals_tmp rfl .nil) ⟨by rw [E.out], HM.sub⟩
            · skip
              by_cases c6 : 65535 < x.po
              · skip
                have E : Aside0 (x.ok = false) := ⟨by rw [Bool.eq_false_iff]; intro h; simp only [Rec.ok, inB, Bool.and_eq_true, decide_eq_true_eq, beq_iff_eq] at h; omega⟩
                have b0 : decide (x.pr < 0) = false := by simpa using c0
                have b1 : decide (255 < x.pr) = false := by simpa using c1
                have b2 : okA x.fr = true := by simpa using c2
                have b3 : okA x.tt = true := by simpa using c3
                have b4 : ((x.fr.size : Int) != (x.tt.size : Int)) = false := by simp; omega
                have d4 : ((x.fr.size : Int) == (x.tt.size : Int)) = true := by simp; omega
                have b5 : decide (x.po < 0) = false := by simpa using c5
                have b6 : decide (65535 < x.po) = true := by simpa using c6
                clear c0 c1 c2 c3 c4 c5 c6
                go_enter Try.func44, Try.ntmps44
                go_wp2_with (first | (go_at_call 82; (with_reducible refine (right3_calls x.fr HF.out _).mono ?_); rintro e w1 ⟨rfl, rfl⟩) | (go_at_call 82; (with_reducible refine (right3_calls x.tt HT.out _).mono ?_); rintro e w1 ⟨rfl, rfl⟩) | go_step3 | ((with_reducible apply sl_want); exact rfl) | ((with_reducible apply sl_load HM); exact rfl; infer_instance; infer_instance; (try simp only [Act.put, List.setIfInBounds_toArray, List.set_cons_zero, List.set_cons_succ])) | ((with_reducible apply sl_store HM); exact rfl; (first | exact Ev.tmp rfl | exact Ev.const); infer_instance; infer_instance; infer_instance; clear HM; (try clear wq); intro wq HM; (try simp only [Act.put, List.setIfInBounds_toArray, List.set_cons_zero, List.set_cons_succ])) | ((with_reducible apply sl_loadR); exact rfl; assumption; (try simp only [Act.put, List.setIfInBounds_toArray, List.set_cons_zero, List.set_cons_succ])) | ((with_reducible apply sl_loadH HM); exact rfl; assumption; infer_instance; (try simp only [Act.put, List.setIfInBounds_toArray, List.set_cons_zero, List.set_cons_succ])) | ((with_reducible refine gate_dst (N := 1) rfl ?_); (with_reducible apply sl_box HM); (first | exact Ev.tmp rfl | exact Ev.const); exact rfl; clear HM; (try clear wq); intro g1 wq HM; (try simp only [Act.put, List.setIfInBounds_toArray, List.set_cons_zero, List.set_cons_succ])) | ((with_reducible refine gate_dst (N := 3) rfl ?_); (with_reducible apply sl_alloc HM); infer_instance; clear HM; (try clear wq); intro g3 wq HM; (try simp only [Act.put, List.setIfInBounds_toArray, List.set_cons_zero, List.set_cons_succ])))
                exact sl_ret1 rfl (vals_tmp rfl .nil) ⟨by rw [E.out], HM.sub⟩
              · skip
                by_cases c7 : x.de < 0
                · skip
                  have E : Aside0 (x.ok = false) := ⟨by rw [Bool.eq_false_iff]; intro h; simp only [Rec.ok, inB, Bool.and_eq_true, decide_eq_true_eq, beq_iff_eq] at h; omega⟩
                  have b0 : decide (x.pr < 0) = false := by simpa using c0
                  have b1 : decide (255 < x.pr) = false := by simpa using c1
                  have b2 : okA x.fr = true := by simpa using c2
                  have b3 : okA x.tt = true := by simpa using c3
                  have b4 : ((x.fr.size : Int) != (x.tt.size : Int)) = false := by simp; omega
                  have d4 : ((x.fr.size : Int) == (x.tt.size : Int)) = true := by simp; omega
                  have b5 : decide (x.po < 0) = false := by simpa using c5
                  have b6 : decide (65535 < x.po) = false := by simpa using c6
                  have b7 : decide (x.de < 0) = true := by simpa using c7
                  clear c0 c1 c2 c3 c4 c5 c6 c7
                  go_enter Try.func44, Try.ntmps44
                  go_wp2_with (first | (go_at_call 82; (with_reducible refine (right3_calls x.fr HF.out _).mono ?_); rintro e w1 ⟨rfl, rfl⟩) | (go_at_call 82; (with_reducible refine (right3_calls x.tt HT.out _).mono ?_); rintro e w1 ⟨rfl, rfl⟩) | go_step3 | ((with_reducible apply sl_want); exact rfl) | ((with_reducible apply sl_load HM); exact rfl; infer_instance; infer_instance; (try simp only [Act.put, List.setIfInBounds_toArray, List.set_cons_zero, List.set_cons_succ])) | ((with_reducible apply sl_store HM); exact rfl; (first | exact Ev.tmp rfl | exact Ev.const); infer_instance; infer_instance; infer_instance; clear HM; (try clear wq); intro wq HM; (try simp only [Act.put, List.setIfInBounds_toArray, List.set_cons_zero, List.set_cons_succ])) | ((with_reducible apply sl_loadR); exact rfl; assumption; (try simp only [Act.put, List.setIfInBounds_toArray, List.set_cons_zero, List.set_cons_succ])) | ((with_reducible apply sl_loadH HM); exact rfl; assumption; infer_instance; (try simp only [Act.put, List.setIfInBounds_toArray, List.set_cons_zero, List.set_cons_succ])) | ((with_reducible refine gate_dst (N := 1) rfl ?_); (with_reducible apply sl_box HM); (first | exact Ev.tmp rfl | exact Ev.const); exact rfl; clear HM; (try clear wq); intro g1 wq HM; (try simp only [Act.put, List.setIfInBounds_toArray, List.set_cons_zero, List.set_cons_succ])) | ((with_reducible refine gate_dst (N := 3) rfl ?_); (with_reducible apply sl_alloc HM); infer_instance; clear HM; (try clear wq); intro g3 wq HM; (try simp only [Act.put, List.setIfInBounds_toArray, List.set_cons_zero, List.set_cons_succ])))
                  exact sl_ret1 rfl (vals_tmp rfl .nil) ⟨by rw [E.out], HM.sub⟩
                · skip
                  by_cases c8 : 65535 < x.de
                  · skip
                    have E : Aside0 (x.ok = false) := ⟨by rw [Bool.eq_false_iff]; intro h; simp only [Rec.ok, inB, Bool.and_eq_true, decide_eq_true_eq, beq_iff_eq] at h; omega⟩
                    have b0 : decide (x.pr < 0) = false := by simpa using c0
                    have b1 : decide (255 < x.pr) = false := by simpa using c1
                    have b2 : okA x.fr = true := by simpa using c2
                    have b3 : okA x.tt = true := by simpa using c3
                    have b4 : ((x.fr.size : Int) != (x.tt.size : Int)) = false := by simp; omega
                    have d4 : ((x.fr.size : Int) == (x.tt.size : Int)) = true := by simp; omega
                    have b5 : decide (x.po < 0) = false := by simpa using c5
                    have b6 : decide (65535 < x.po) = false := by simpa using c6
                    have b7 : decide (x.de < 0) = false := by simpa using c7
                    have b8 : decide (65535 < x.de) = true := by simpa using c8
                    clear c0 c1 c2 c3 c4 c5 c6 c7 c8
                    go_enter Try.func44, Try.ntmps44
                    go_wp2_with (first | (go_at_call 82; (with_reducible refine (right3_calls x.fr HF.out _).mono ?_); rintro e w1 ⟨rfl, rfl⟩) | (go_at_call 82; (with_reducible refine (right3_calls x.tt HT.out _).mono ?_); rintro e w1 ⟨rfl, rfl⟩) | go_step3 | ((with_reducible apply sl_want); exact rfl) | ((with_reducible apply sl_load HM); exact rfl; infer_instance; infer_instance; (try simp only [Act.put, List.setIfInBounds_toArray, List.set_cons_zero, List.set_cons_succ])) | ((with_reducible apply sl_store HM); exact rfl; (first | exact Ev.tmp rfl | exact Ev.const); infer_instance; infer_instance; infer_instance; clear HM; (try clear wq); intro wq HM; (try simp only [Act.put, List.setIfInBounds_toArray, List.set_cons_zero, List.set_cons_succ])) | ((with_reducible apply sl_loadR); exact rfl; assumption; (try simp only [Act.put, List.setIfInBounds_toArray, List.set_cons_zero, List.set_cons_succ])) | ((with_reducible apply sl_loadH HM); exact rfl; assumption; infer_instance; (try simp only [Act.put, List.setIfInBounds_toArray, List.set_cons_zero, List.set_cons_succ])) | ((with_reducible refine gate_dst (N := 1) rfl ?_); (with_reducible apply sl_box HM); (first | exact Ev.tmp rfl | exact Ev.const); exact rfl; clear HM; (try clear wq); intro g1 wq HM; (try simp only [Act.put, List.setIfInBounds_toArray, List.set_cons_zero, List.set_cons_succ])) | ((with_reducible refine gate_dst (N := 3) rfl ?_); (with_reducible apply sl_alloc HM); infer_instance; clear HM; (try clear wq); intro g3 wq HM; (try simp only [Act.put, List.setIfInBounds_toArray, List.set_cons_zero, List.set_cons_succ])))
                    exact sl_ret1 rfl (vals_tmp rfl .nil) ⟨by rw [E.out], HM.sub⟩
                  · skip
                    by_cases c9 : 0 ≤ x.ba
                    · skip
                      by_cases c10 : x.ba ≤ 15
                      · skip
                        by_cases c11 : 1 ≤ x.st
                        · skip
                          by_cases c12 : x.st ≤ 4
                          · skip
                            by_cases c13 : 0 ≤ x.le
                            · skip
                              by_cases c14 : x.le ≤ 65535
                              · skip
                                have E : Aside0 (x.ok = true) := ⟨by simp only [Rec.ok, inB, Bool.and_eq_true, decide_eq_true_eq, beq_iff_eq]; exact ⟨⟨by omega, by omega⟩, c2, by omega, ⟨by omega, by omega⟩, ⟨by omega, by omega⟩, ⟨by omega, by omega⟩, ⟨by omega, by omega⟩, by omega, by omega⟩⟩
                                have b0 : decide (x.pr < 0) = false := by simpa using c0
                                have b1 : decide (255 < x.pr) = false := by simpa using c1
                                have b2 : okA x.fr = true := by simpa using c2
                                have b3 : okA x.tt = true := by simpa using c3
                                have b4 : ((x.fr.size : Int) != (x.tt.size : Int)) = false := by simp; omega
                                have d4 : ((x.fr.size : Int) == (x.tt.size : Int)) = true := by simp; omega
                                have b5 : decide (x.po < 0) = false := by simpa using c5
                                have b6 : decide (65535 < x.po) = false := by simpa using c6
                                have b7 : decide (x.de < 0) = false := by simpa using c7
                                have b8 : decide (65535 < x.de) = false := by simpa using c8
                                have b9 : decide (0 ≤ x.ba) = true := by simpa using c9
                                have b10 : decide (x.ba ≤ 15) = true := by simpa using c10
                                have b11 : decide (1 ≤ x.st) = true := by simpa using c11
                                have b12 : decide (x.st ≤ 4) = true := by simpa using c12
                                have b13 : decide (0 ≤ x.le) = true := by simpa using c13
                                have b14 : decide (x.le ≤ 65535) = true := by simpa using c14
                                clear c0 c1 c2 c3 c4 c5 c6 c7 c8 c9 c10 c11 c12 c13 c14
                                go_enter Try.func44, Try.ntmps44
                                go_wp2_with (first | (go_at_call 82; (with_reducible refine (right3_calls x.fr HF.out _).mono ?_); rintro e w1 ⟨rfl, rfl⟩) | (go_at_call 82; (with_reducible refine (right3_calls x.tt HT.out _).mono ?_); rintro e w1 ⟨rfl, rfl⟩) | go_step3 | ((with_reducible apply sl_want); exact rfl) | ((with_reducible apply sl_load HM); exact rfl; infer_instance; infer_instance; (try simp only [Act.put, List.setIfInBounds_toArray, List.set_cons_zero, List.set_cons_succ])) | ((with_reducible apply sl_store HM); exact rfl; (first | exact Ev.tmp rfl | exact Ev.const); infer_instance; infer_instance; infer_instance; clear HM; (try clear wq); intro wq HM; (try simp only [Act.put, List.setIfInBounds_toArray, List.set_cons_zero, List.set_cons_succ])) | ((with_reducible apply sl_loadR); exact rfl; assumption; (try simp only [Act.put, List.setIfInBounds_toArray, List.set_cons_zero, List.set_cons_succ])) | ((with_reducible apply sl_loadH HM); exact rfl; assumption; infer_instance; (try simp only [Act.put, List.setIfInBounds_toArray, List.set_cons_zero, List.set_cons_succ])) | ((with_reducible refine gate_dst (N := 1) rfl ?_); (with_reducible apply sl_box HM); (first | exact Ev.tmp rfl | exact Ev.const); exact rfl; clear HM; (try clear wq); intro g1 wq HM; (try simp only [Act.put, List.setIfInBounds_toArray, List.set_cons_zero, List.set_cons_succ])) | ((with_reducible refine gate_dst (N := 3) rfl ?_); (with_reducible apply sl_alloc HM); infer_instance; clear HM; (try clear wq); intro g3 wq HM; (try simp only [Act.put, List.setIfInBounds_toArray, List.set_cons_zero, List.set_cons_succ])))
                                exact sl_ret1 rfl (vals_tmp rfl .nil) ⟨by rw [E.out], HM.sub⟩
                              · skip
                                have E : Aside0 (x.ok = false) := ⟨by rw [Bool.eq_false_iff]; intro h; simp only [Rec.ok, inB, Bool.and_eq_true, decide_eq_true_eq, beq_iff_eq] at h; omega⟩
                                have b0 : decide (x.pr < 0) = false := by simpa using c0
                                have b1 : decide (255 < x.pr) = false := by simpa using c1
                                have b2 : okA x.fr = true := by simpa using c2
                                have b3 : okA x.tt = true := by simpa using c3
                                have b4 : ((x.fr.size : Int) != (x.tt.size : Int)) = false := by simp; omega
                                have d4 : ((x.fr.size : Int) == (x.tt.size : Int)) = true := by simp; omega
                                have b5 : decide (x.po < 0) = false := by simpa using c5
                                have b6 : decide (65535 < x.po) = false := by simpa using c6
                                have b7 : decide (x.de < 0) = false := by simpa using c7
                                have b8 : decide (65535 < x.de) = false := by simpa using c8
                                have b9 : decide (0 ≤ x.ba) = true := by simpa using c9
                                have b10 : decide (x.ba ≤ 15) = true := by simpa using c10
                                have b11 : decide (1 ≤ x.st) = true := by simpa using c11
                                have b12 : decide (x.st ≤ 4) = true := by simpa using c12
                                have b13 : decide (0 ≤ x.le) = true := by simpa using c13
                                have b14 : decide (x.le ≤ 65535) = false := by simpa using c14
                                clear c0 c1 c2 c3 c4 c5 c6 c7 c8 c9 c10 c11 c12 c13 c14
                                go_enter Try.func44, Try.ntmps44
                                go_wp2_with (first | (go_at_call 82; (with_reducible refine (right3_calls x.fr HF.out _).mono ?_); rintro e w1 ⟨rfl, rfl⟩) | (go_at_call 82; (with_reducible refine (right3_calls x.tt HT.out _).mono ?_); rintro e w1 ⟨rfl, rfl⟩) | go_step3 | ((with_reducible apply sl_want); exact rfl) | ((with_reducible apply sl_load HM); exact rfl; infer_instance; infer_instance; (try simp only [Act.put, List.setIfInBounds_toArray, List.set_cons_zero, List.set_cons_succ])) | ((with_reducible apply sl_store HM); exact rfl; (first | exact Ev.tmp rfl | exact Ev.const); infer_instance; infer_instance; infer_instance; clear HM; (try clear wq); intro wq HM; (try simp only [Act.put, List.setIfInBounds_toArray, List.set_cons_zero, List.set_cons_succ])) | ((with_reducible apply sl_loadR); exact rfl; assumption; (try simp only [Act.put, List.setIfInBounds_toArray, List.set_cons_zero, List.set_cons_succ])) | ((with_reducible apply sl_loadH HM); exact rfl; assumption; infer_instance; (try simp only [Act.put, List.setIfInBounds_toArray, List.set_cons_zero, List.set_cons_succ])) | ((with_reducible refine gate_dst (N := 1) rfl ?_); (with_reducible apply sl_box HM); (first | exact Ev.tmp rfl | exact Ev.const); exact rfl; clear HM; (try clear wq); intro g1 wq HM; (try simp only [Act.put, List.setIfInBounds_toArray, List.set_cons_zero, List.set_cons_succ])) | ((with_reducible refine gate_dst (N := 3) rfl ?_); (with_reducible apply sl_alloc HM); infer_instance; clear HM; (try clear wq); intro g3 wq HM; (try simp only [Act.put, List.setIfInBounds_toArray, List.set_cons_zero, List.set_cons_succ])))
                                exact sl_ret1 rfl (vals_tmp rfl .nil) ⟨by rw [E.out], HM.sub⟩
                            · skip
                              have E : Aside0 (x.ok = false) := ⟨by rw [Bool.eq_false_iff]; intro h; simp only [Rec.ok, inB, Bool.and_eq_true, decide_eq_true_eq, beq_iff_eq] at h; omega⟩
                              have b0 : decide (x.pr < 0) = false := by simpa using c0
                              have b1 : decide (255 < x.pr) = false := by simpa using c1
                              have b2 : okA x.fr = true := by simpa using c2
                              have b3 : okA x.tt = true := by simpa using c3
                              have b4 : ((x.fr.size : Int) != (x.tt.size : Int)) = false := by simp; omega
                              have d4 : ((x.fr.size : Int) == (x.tt.size : Int)) = true := by simp; omega
                              have b5 : decide (x.po < 0) = false := by simpa using c5
                              have b6 : decide (65535 < x.po) = false := by simpa using c6
                              have b7 : decide (x.de < 0) = false := by simpa using c7
                              have b8 : decide (65535 < x.de) = false := by simpa using c8
                              have b9 : decide (0 ≤ x.ba) = true := by simpa using c9
                              have b10 : decide (x.ba ≤ 15) = true := by simpa using c10
                              have b11 : decide (1 ≤ x.st) = true := by simpa using c11
                              have b12 : decide (x.st ≤ 4) = true := by simpa using c12
                              have b13 : decide (0 ≤ x.le) = false := by simpa using c13
                              clear c0 c1 c2 c3 c4 c5 c6 c7 c8 c9 c10 c11 c12 c13
                              go_enter Try.func44, Try.ntmps44
                              go_wp2_with (first | (go_at_call 82; (with_reducible refine (right3_calls x.fr HF.out _).mono ?_); rintro e w1 ⟨rfl, rfl⟩) | (go_at_call 82; (with_reducible refine (right3_calls x.tt HT.out _).mono ?_); rintro e w1 ⟨rfl, rfl⟩) | go_step3 | ((with_reducible apply sl_want); exact rfl) | ((with_reducible apply sl_load HM); exact rfl; infer_instance; infer_instance; (try simp only [Act.put, List.setIfInBounds_toArray, List.set_cons_zero, List.set_cons_succ])) | ((with_reducible apply sl_store HM); exact rfl; (first | exact Ev.tmp rfl | exact Ev.const); infer_instance; infer_instance; infer_instance; clear HM; (try clear wq); intro wq HM; (try simp only [Act.put, List.setIfInBounds_toArray, List.set_cons_zero, List.set_cons_succ])) | ((with_reducible apply sl_loadR); exact rfl; assumption; (try simp only [Act.put, List.setIfInBounds_toArray, List.set_cons_zero, List.set_cons_succ])) | ((with_reducible apply sl_loadH HM); exact rfl; assumption; infer_instance; (try simp only [Act.put, List.setIfInBounds_toArray, List.set_cons_zero, List.set_cons_succ])) | ((with_reducible refine gate_dst (N := 1) rfl ?_); (with_reducible apply sl_box HM); (first | exact Ev.tmp rfl | exact Ev.const); exact rfl; clear HM; (try clear wq); intro g1 wq HM; (try simp only [Act.put, List.setIfInBounds_toArray, List.set_cons_zero, List.set_cons_succ])) | ((with_reducible refine gate_dst (N := 3) rfl ?_); (with_reducible apply sl_alloc HM); infer_instance; clear HM; (try clear wq); intro g3 wq HM; (try simp only [Act.put, List.setIfInBounds_toArray, List.set_cons_zero, List.set_cons_succ])))
                              exact sl_ret1 rfl (vals_tmp rfl .nil) ⟨by rw [E.out], HM.sub⟩
                          · skip
                            have E : Aside0 (x.ok = false) := ⟨by rw [Bool.eq_false_iff]; intro h; simp only [Rec.ok, inB, Bool.and_eq_true, decide_eq_true_eq, beq_iff_eq] at h; omega⟩
                            have b0 : decide (x.pr < 0) = false := by simpa using c0
                            have b1 : decide (255 < x.pr) = false := by simpa using c1
                            have b2 : okA x.fr = true := by simpa using c2
                            have b3 : okA x.tt = true := by simpa using c3
                            have b4 : ((x.fr.size : Int) != (x.tt.size : Int)) = false := by simp; omega
                            have d4 : ((x.fr.size : Int) == (x.tt.size : Int)) = true := by simp; omega
                            have b5 : decide (x.po < 0) = false := by simpa using c5
                            have b6 : decide (65535 < x.po) = false := by simpa using c6
                            have b7 : decide (x.de < 0) = false := by simpa using c7
                            have b8 : decide (65535 < x.de) = false := by simpa using c8
                            have b9 : decide (0 ≤ x.ba) = true := by simpa using c9
                            have b10 : decide (x.ba ≤ 15) = true := by simpa using c10
                            have b11 : decide (1 ≤ x.st) = true := by simpa using c11
                            have b12 : decide (x.st ≤ 4) = false := by simpa using c12
                            clear c0 c1 c2 c3 c4 c5 c6 c7 c8 c9 c10 c11 c12
                            go_enter Try.func44, Try.ntmps44
                            go_wp2_with (first | (go_at_call 82; (with_reducible refine (right3_calls x.fr HF.out _).mono ?_); rintro e w1 ⟨rfl, rfl⟩) | (go_at_call 82; (with_reducible refine (right3_calls x.tt HT.out _).mono ?_); rintro e w1 ⟨rfl, rfl⟩) | go_step3 | ((with_reducible apply sl_want); exact rfl) | ((with_reducible apply sl_load HM); exact rfl; infer_instance; infer_instance; (try simp only [Act.put, List.setIfInBounds_toArray, List.set_cons_zero, List.set_cons_succ])) | ((with_reducible apply sl_store HM); exact rfl; (first | exact Ev.tmp rfl | exact Ev.const); infer_instance; infer_instance; infer_instance; clear HM; (try clear wq); intro wq HM; (try simp only [Act.put, List.setIfInBounds_toArray, List.set_cons_zero, List.set_cons_succ])) | ((with_reducible apply sl_loadR); exact rfl; assumption; (try simp only [Act.put, List.setIfInBounds_toArray, List.set_cons_zero, List.set_cons_succ])) | ((with_reducible apply sl_loadH HM); exact rfl; assumption; infer_instance; (try simp only [Act.put, List.setIfInBounds_toArray, List.set_cons_zero, List.set_cons_succ])) | ((with_reducible refine gate_dst (N := 1) rfl ?_); (with_reducible apply sl_box HM); (first | exact Ev.tmp rfl | exact Ev.const); exact rfl; clear HM; (try clear wq); intro g1 wq HM; (try simp only [Act.put, List.setIfInBounds_toArray, List.set_cons_zero, List.set_cons_succ])) | ((with_reducible refine gate_dst (N := 3) rfl ?_); (with_reducible apply sl_alloc HM); infer_instance; clear HM; (try clear wq); intro g3 wq HM; (try simp only [Act.put, List.setIfInBounds_toArray, List.set_cons_zero, List.set_cons_succ])))
                            exact sl_ret1 rfl (vals_tmp rfl .nil) ⟨by rw [E.out], HM.sub⟩
                        · skip
                          have E : Aside0 (x.ok = false) := ⟨by rw [Bool.eq_false_iff]; intro h; simp only [Rec.ok, inB, Bool.and_eq_true, decide_eq_true_eq, beq_iff_eq] at h; omega⟩
                          have b0 : decide (x.pr < 0) = false := by simpa using c0
                          have b1 : decide (255 < x.pr) = false := by simpa using c1
                          have b2 : okA x.fr = true := by simpa using c2
                          have b3 : okA x.tt = true := by simpa using c3
                          have b4 : ((x.fr.size : Int) != (x.tt.size : Int)) = false := by simp; omega
                          have d4 : ((x.fr.size : Int) == (x.tt.size : Int)) = true := by simp; omega
                          have b5 : decide (x.po < 0) = false := by simpa using c5
                          have b6 : decide (65535 < x.po) = false := by simpa using c6
                          have b7 : decide (x.de < 0) = false := by simpa using c7
                          have b8 : decide (65535 < x.de) = false := by simpa using c8
                          have b9 : decide (0 ≤ x.ba) = true := by simpa using c9
                          have b10 : decide (x.ba ≤ 15) = true := by simpa using c10
                          have b11 : decide (1 ≤ x.st) = false := by simpa using c11
                          clear c0 c1 c2 c3 c4 c5 c6 c7 c8 c9 c10 c11
                          go_enter Try.func44, Try.ntmps44
                          go_wp2_with (first | (go_at_call 82; (with_reducible refine (right3_calls x.fr HF.out _).mono ?_); rintro e w1 ⟨rfl, rfl⟩) | (go_at_call 82; (with_reducible refine (right3_calls x.tt HT.out _).mono ?_); rintro e w1 ⟨rfl, rfl⟩) | go_step3 | ((with_reducible apply sl_want); exact rfl) | ((with_reducible apply sl_load HM); exact rfl; infer_instance; infer_instance; (try simp only [Act.put, List.setIfInBounds_toArray, List.set_cons_zero, List.set_cons_succ])) | ((with_reducible apply sl_store HM); exact rfl; (first | exact Ev.tmp rfl | exact Ev.const); infer_instance; infer_instance; infer_instance; clear HM; (try clear wq); intro wq HM; (try simp only [Act.put, List.setIfInBounds_toArray, List.set_cons_zero, List.set_cons_succ])) | ((with_reducible apply sl_loadR); exact rfl; assumption; (try simp only [Act.put, List.setIfInBounds_toArray, List.set_cons_zero, List.set_cons_succ])) | ((with_reducible apply sl_loadH HM); exact rfl; assumption; infer_instance; (try simp only [Act.put, List.setIfInBounds_toArray, List.set_cons_zero, List.set_cons_succ])) | ((with_reducible refine gate_dst (N := 1) rfl ?_); (with_reducible apply sl_box HM); (first | exact Ev.tmp rfl | exact Ev.const); exact rfl; clear HM; (try clear wq); intro g1 wq HM; (try simp only [Act.put, List.setIfInBounds_toArray, List.set_cons_zero, List.set_cons_succ])) | ((with_reducible refine gate_dst (N := 3) rfl ?_); (with_reducible apply sl_alloc HM); infer_instance; clear HM; (try clear wq); intro g3 wq HM; (try simp only [Act.put, List.setIfInBounds_toArray, List.set_cons_zero, List.set_cons_succ])))
                          exact sl_ret1 rfl (vals_tmp rfl .nil) ⟨by rw [E.out], HM.sub⟩
                      · skip
                        have E : Aside0 (x.ok = false) := ⟨by rw [Bool.eq_false_iff]; intro h; simp only [Rec.ok, inB, Bool.and_eq_true, decide_eq_true_eq, beq_iff_eq] at h; omega⟩
                        have b0 : decide (x.pr < 0) = false := by simpa using c0
                        have b1 : decide (255 < x.pr) = false := by simpa using c1
                        have b2 : okA x.fr = true := by simpa using c2
                        have b3 : okA x.tt = true := by simpa using c3
                        have b4 : ((x.fr.size : Int) != (x.tt.size : Int)) = false := by simp; omega
                        have d4 : ((x.fr.size : Int) == (x.tt.size : Int)) = true := by simp; omega
                        have b5 : decide (x.po < 0) = false := by simpa using c5
                        have b6 : decide (65535 < x.po) = false := by simpa using c6
                        have b7 : decide (x.de < 0) = false := by simpa using c7
                        have b8 : decide (65535 < x.de) = false := by simpa using c8
                        have b9 : decide (0 ≤ x.ba) = true := by simpa using c9
                        have b10 : decide (x.ba ≤ 15) = false := by simpa using c10
                        clear c0 c1 c2 c3 c4 c5 c6 c7 c8 c9 c10
                        go_enter Try.func44, Try.ntmps44
                        go_wp2_with (first | (go_at_call 82; (with_reducible refine (right3_calls x.fr HF.out _).mono ?_); rintro e w1 ⟨rfl, rfl⟩) | (go_at_call 82; (with_reducible refine (right3_calls x.tt HT.out _).mono ?_); rintro e w1 ⟨rfl, rfl⟩) | go_step3 | ((with_reducible apply sl_want); exact rfl) | ((with_reducible apply sl_load HM); exact rfl; infer_instance; infer_instance; (try simp only [Act.put, List.setIfInBounds_toArray, List.set_cons_zero, List.set_cons_succ])) | ((with_reducible apply sl_store HM); exact rfl; (first | exact Ev.tmp rfl | exact Ev.const); infer_instance; infer_instance; infer_instance; clear HM; (try clear wq); intro wq HM; (try simp only [Act.put, List.setIfInBounds_toArray, List.set_cons_zero, List.set_cons_succ])) | ((with_reducible apply sl_loadR); exact rfl; assumption; (try simp only [Act.put, List.setIfInBounds_toArray, List.set_cons_zero, List.set_cons_succ])) | ((with_reducible apply sl_loadH HM); exact rfl; assumption; infer_instance; (try simp only [Act.put, List.setIfInBounds_toArray, List.set_cons_zero, List.set_cons_succ])) | ((with_reducible refine gate_dst (N := 1) rfl ?_); (with_reducible apply sl_box HM); (first | exact Ev.tmp rfl | exact Ev.const); exact rfl; clear HM; (try clear wq); intro g1 wq HM; (try simp only [Act.put, List.setIfInBounds_toArray, List.set_cons_zero, List.set_cons_succ])) | ((with_reducible refine gate_dst (N := 3) rfl ?_); (with_reducible apply sl_alloc HM); infer_instance; clear HM; (try clear wq); intro g3 wq HM; (try simp only [Act.put, List.setIfInBounds_toArray, List.set_cons_zero, List.set_cons_succ])))
                        exact sl_ret1 rfl (vals_tmp rfl .nil) ⟨by rw [E.out], HM.sub⟩
                    · skip
                      have E : Aside0 (x.ok = false) := ⟨by rw [Bool.eq_false_iff]; intro h; simp only [Rec.ok, inB, Bool.and_eq_true, decide_eq_true_eq, beq_iff_eq] at h; omega⟩
                      have b0 : decide (x.pr < 0) = false := by simpa using c0
                      have b1 : decide (255 < x.pr) = false := by simpa using c1
                      have b2 : okA x.fr = true := by simpa using c2
                      have b3 : okA x.tt = true := by simpa using c3
                      have b4 : ((x.fr.size : Int) != (x.tt.size : Int)) = false := by simp; omega
                      have d4 : ((x.fr.size : Int) == (x.tt.size : Int)) = true := by simp; omega
                      have b5 : decide (x.po < 0) = false := by simpa using c5
                      have b6 : decide (65535 < x.po) = false := by simpa using c6
                      have b7 : decide (x.de < 0) = false := by simpa using c7
                      have b8 : decide (65535 < x.de) = false := by simpa using c8
                      have b9 : decide (0 ≤ x.ba) = false := by simpa using c9
                      clear c0 c1 c2 c3 c4 c5 c6 c7 c8 c9
                      go_enter Try.func44, Try.ntmps44
                      go_wp2_with (first | (go_at_call 82; (with_reducible refine (right3_calls x.fr HF.out _).mono ?_); rintro e w1 ⟨rfl, rfl⟩) | (go_at_call 82; (with_reducible refine (right3_calls x.tt HT.out _).mono ?_); rintro e w1 ⟨rfl, rfl⟩) | go_step3 | ((with_reducible apply sl_want); exact rfl) | ((with_reducible apply sl_load HM); exact rfl; infer_instance; infer_instance; (try simp only [Act.put, List.setIfInBounds_toArray, List.set_cons_zero, List.set_cons_succ])) | ((with_reducible apply sl_store HM); exact rfl; (first | exact Ev.tmp rfl | exact Ev.const); infer_instance; infer_instance; infer_instance; clear HM; (try clear wq); intro wq HM; (try simp only [Act.put, List.setIfInBounds_toArray, List.set_cons_zero, List.set_cons_succ])) | ((with_reducible apply sl_loadR); exact rfl; assumption; (try simp only [Act.put, List.setIfInBounds_toArray, List.set_cons_zero, List.set_cons_succ])) | ((with_reducible apply sl_loadH HM); exact rfl; assumption; infer_instance; (try simp only [Act.put, List.setIfInBounds_toArray, List.set_cons_zero, List.set_cons_succ])) | ((with_reducible refine gate_dst (N := 1) rfl ?_); (with_reducible apply sl_box HM); (first | exact Ev.tmp rfl | exact Ev.const); exact rfl; clear HM; (try clear wq); intro g1 wq HM; (try simp only [Act.put, List.setIfInBounds_toArray, List.set_cons_zero, List.set_cons_succ])) | ((with_reducible refine gate_dst (N := 3) rfl ?_); (with_reducible apply sl_alloc HM); infer_instance; clear HM; (try clear wq); intro g3 wq HM; (try simp only [Act.put, List.setIfInBounds_toArray, List.set_cons_zero, List.set_cons_succ])))
                      exact sl_ret1 rfl (vals_tmp rfl .nil) ⟨by rw [E.out], HM.sub⟩
        · skip
          have E : Aside0 (x.ok = false) := ⟨by rw [Bool.eq_false_iff]; intro h; simp only [Rec.ok, inB, Bool.and_eq_true, decide_eq_true_eq, beq_iff_eq] at h; (have h3 : x.fr.size = x.tt.size := by omega); (have h4 := h.2.1); (unfold okA at h4 c3; rw [h3] at h4; exact c3 h4)⟩
          have b0 : decide (x.pr < 0) = false := by simpa using c0
          have b1 : decide (255 < x.pr) = false := by simpa using c1
          have b2 : okA x.fr = true := by simpa using c2
          have b3 : okA x.tt = false := by simpa using c3
          clear c0 c1 c2 c3
          go_enter Try.func44, Try.ntmps44
          go_wp2_with (first | (go_at_call 82; (with_reducible refine (right3_calls x.fr HF.out _).mono ?_); rintro e w1 ⟨rfl, rfl⟩) | (go_at_call 82; (with_reducible refine (right3_calls x.tt HT.out _).mono ?_); rintro e w1 ⟨rfl, rfl⟩) | go_step3 | ((with_reducible apply sl_want); exact rfl) | ((with_reducible apply sl_load HM); exact rfl; infer_instance; infer_instance; (try simp only [Act.put, List.setIfInBounds_toArray, List.set_cons_zero, List.set_cons_succ])) | ((with_reducible apply sl_store HM); exact rfl; (first | exact Ev.tmp rfl | exact Ev.const); infer_instance; infer_instance; infer_instance; clear HM; (try clear wq); intro wq HM; (try simp only [Act.put, List.setIfInBounds_toArray, List.set_cons_zero, List.set_cons_succ])) | ((with_reducible apply sl_loadR); exact rfl; assumption; (try simp only [Act.put, List.setIfInBounds_toArray, List.set_cons_zero, List.set_cons_succ])) | ((with_reducible apply sl_loadH HM); exact rfl; assumption; infer_instance; (try simp only [Act.put, List.setIfInBounds_toArray, List.set_cons_zero, List.set_cons_succ])) | ((with_reducible refine gate_dst (N := 1) rfl ?_); (with_reducible apply sl_box HM); (first | exact Ev.tmp rfl | exact Ev.const); exact rfl; clear HM; (try clear wq); intro g1 wq HM; (try simp only [Act.put, List.setIfInBounds_toArray, List.set_cons_zero, List.set_cons_succ])) | ((with_reducible refine gate_dst (N := 3) rfl ?_); (with_reducible apply sl_alloc HM); infer_instance; clear HM; (try clear wq); intro g3 wq HM; (try simp only [Act.put, List.setIfInBounds_toArray, List.set_cons_zero, List.set_cons_succ])))
          exact sl_ret1 rfl (vals_tmp rfl .nil) ⟨by rw [E.out], HM.sub⟩
      · skip
        have E : Aside0 (x.ok = false) := ⟨by rw [Bool.eq_false_iff]; intro h; simp only [Rec.ok, inB, Bool.and_eq_true, decide_eq_true_eq, beq_iff_eq] at h; exact absurd h.2.1 c2⟩
        have b0 : decide (x.pr < 0) = false := by simpa using c0
        have b1 : decide (255 < x.pr) = false := by simpa using c1
        have b2 : okA x.fr = false := by simpa using c2
        clear c0 c1 c2
        go_enter Try.func44, Try.ntmps44
        go_wp2_with (first | (go_at_call 82; (with_reducible refine (right3_calls x.fr HF.out _).mono ?_); rintro e w1 ⟨rfl, rfl⟩) | (go_at_call 82; (with_reducible refine (right3_calls x.tt HT.out _).mono ?_); rintro e w1 ⟨rfl, rfl⟩) | go_step3 | ((with_reducible apply sl_want); exact rfl) | ((with_reducible apply sl_load HM); exact rfl; infer_instance; infer_instance; (try simp only [Act.put, List.setIfInBounds_toArray, List.set_cons_zero, List.set_cons_succ])) | ((with_reducible apply sl_store HM); exact rfl; (first | exact Ev.tmp rfl | exact Ev.const); infer_instance; infer_instance; infer_instance; clear HM; (try clear wq); intro wq HM; (try simp only [Act.put, List.setIfInBounds_toArray, List.set_cons_zero, List.set_cons_succ])) | ((with_reducible apply sl_loadR); exact rfl; assumption; (try simp only [Act.put, List.setIfInBounds_toArray, List.set_cons_zero, List.set_cons_succ])) | ((with_reducible apply sl_loadH HM); exact rfl; assumption; infer_instance; (try simp only [Act.put, List.setIfInBounds_toArray, List.set_cons_zero, List.set_cons_succ])) | ((with_reducible refine gate_dst (N := 1) rfl ?_); (with_reducible apply sl_box HM); (first | exact Ev.tmp rfl | exact Ev.const); exact rfl; clear HM; (try clear wq); intro g1 wq HM; (try simp only [Act.put, List.setIfInBounds_toArray, List.set_cons_zero, List.set_cons_succ])) | ((with_reducible refine gate_dst (N := 3) rfl ?_); (with_reducible apply sl_alloc HM); infer_instance; clear HM; (try clear wq); intro g3 wq HM; (try simp only [Act.put, List.setIfInBounds_toArray, List.set_cons_zero, List.set_cons_succ])))
        exact sl_ret1 rfl (vals_tmp rfl .nil) ⟨by rw [E.out], HM.sub⟩
end Go.Proofs.Ytghfoooldcbdnaa
