/-
  THE SENDER OF PACKAGE syncout: Delete.
-/
import Derived.Test.YtghfoooldcbdnaaSnd3
import Derived.Test.YtghfoooldcbdnaaOps7
set_option linter.unusedVariables false
set_option linter.unusedSimpArgs false
namespace Go.Proofs.Ytghfoooldcbdnaa
open Go.RowKit Go.Proofs.Ytghfoooldcbdnaa.SL Go.Proofs.YtghfoooldcbdnaaW.PrintWords

theorem sents_len (s : Int) (L : List Sn) : (sents s L).length = L.length * 4 := flat_len (sn_len s) L
theorem erase_sents (s : Int) : ∀ (L : List Sn) (k : Nat), k < L.length → sents s (L.eraseIdx k) = (sents s L).take (k * 4) ++ (sents s L).drop ((k + 1) * 4)
  | [], k, h => by simp at h
  | x :: L, 0, _ => by
    simp only [sents, List.eraseIdx_cons_zero, List.flatMap_cons, Nat.zero_mul, List.take_zero, List.nil_append]
    rfl
  | x :: L, k + 1, h => by
    have h1 := erase_sents s L k (by simpa using h)
    simp only [sents, List.eraseIdx_cons_succ, List.flatMap_cons] at h1 ⊢
    rw [h1]
    have e1 : (k + 1) * 4 = (x.cells s).length + k * 4 := by rw [sn_len]; omega
    have e2 : (k + 1 + 1) * 4 = (x.cells s).length + (k * 4 + 4) := by rw [sn_len]; omega
    rw [e2, e1, List.take_append, List.drop_append, List.take_of_length_le (l := x.cells s) (by omega), List.drop_eq_nil_of_le (show (x.cells s).length ≤ (x.cells s).length + (k * 4 + 4) by omega), List.nil_append]
    simp only [Nat.add_sub_cancel_left, List.append_assoc]
    rw [show (x.cells s).length + k * 4 = k * 4 + 4 from by rw [sn_len]; omega]
theorem sents_ones (s : Int) (L : List Sn) : Ones (sents s L) := ⟨by
  intro v hv
  obtain ⟨x, _, hx⟩ := List.mem_flatMap.1 hv
  simp at hx
  rcases hx with rfl | rfl | rfl | rfl <;> rfl⟩
theorem ones_drop {l : List Value} (h : Ones l) (n : Nat) : Ones (l.drop n) := ⟨fun v hv => h.all v (List.mem_of_mem_drop hv)⟩
set_option maxHeartbeats 4000000 in
set_option maxRecDepth 100000 in
theorem Delete_calls (s : Int) (L : List Sn) (k : Nat) (hk : k < L.length) (A : Option Addr) (c : Nat) (B : Nat) (w0 w : World) (H : List As) (HM : SL.Mod B w0 (row (.slice A L.length c) 140 4 L.length (sents s L) :: H) w) :
    Calls Try.prog 76 #[.slice A L.length c, .int .i64 k, .int .i64 ((k + 1 : Nat) : Int)] w fun e w' => ∃ v', e = .returned v' ∧ SL.Mod B w0 (row v' 140 4 (L.eraseIdx k).length (sents s (L.eraseIdx k)) :: H) w' := by
  obtain ⟨ad, rfl⟩ : ∃ ad, A = some ad := (ownsRow_reads (HM.rowOwn (.slice A L.length c))).1.addr (by rw [sents_len]; omega)
  obtain ⟨gR, cs, rfl, HM1, _, hc1, hc2, hcl, hct⟩ := Mod.openRow HM
  clear HM
  have HM := HM1
  clear HM1
  have hS := sents_len s L
  have E := Aside0.mk (erase_sents s L k hk)
  have hel : Aside0 ((L.eraseIdx k).length = L.length - 1) := ⟨by rw [List.length_eraseIdx_of_lt hk]⟩
  obtain ⟨S0, hS0⟩ : ∃ S0, S0 = sents s L := ⟨_, rfl⟩
  have H1 : Aside0 (Ones (S0.drop ((k + 1) * 4))) := ⟨by rw [hS0]; exact ones_drop (sents_ones s L) _⟩
  rw [← hS0] at hct hS E
  have HRD : Aside0 (∀ w', SL.Mod B w0 [cells gR cs 140] w' → Reads w' (subA (some ⟨gR, 0, none⟩) (k + 1) c 4) (S0.drop ((k + 1) * 4))) := ⟨fun w' h => by
    refine Reads.drop ?_ _ _ _ (by omega)
    rw [← hct]
    exact Reads.take (fun j u hu => ⟨_, rfl, cells_at (h.has gR) j u hu⟩) _⟩
  have HCT := Aside0.mk hct
  have HSD : Aside0 ((S0.drop ((k + 1) * 4)).length = (L.length - (k + 1)) * 4) := ⟨by rw [List.length_drop, hS]; omega⟩
  obtain ⟨nw, hnw⟩ : ∃ nw, nw = S0.drop ((k + 1) * 4) := ⟨_, rfl⟩
  rw [← hnw] at H1 HRD HSD E
  obtain ⟨n, hn⟩ : ∃ n, n = L.length := ⟨_, rfl⟩
  rw [← hn] at HSD hk hc1 HCT hel ⊢
  have hz : (k == k + 1) = false := by rw [beq_eq_false_iff_ne]; omega
  have hz2 : ((k : Int) == ((k + 1 : Nat) : Int)) = false := by rw [beq_eq_false_iff_ne]; omega
  clear hct hnw hn
  go_enter Try.func76, Try.ntmps76
  go_wp2_with first | ((with_reducible refine gate_dst (N := 13) rfl ?_); (with_reducible apply sl_subLHM (sz := 4) (k) (k + 1) (n)); (first | exact Ev.tmp rfl | exact Ev.const); (first | exact Ev.tmp rfl | exact Ev.const); (first | exact Ev.tmp rfl | exact Ev.const); (first | exact Ev.tmp rfl | exact Ev.const); exact Try.underlying132; (focus kernel_rfl); omega; omega; omega; (try simp only [Act.put, List.setIfInBounds_toArray, List.set_cons_zero, List.set_cons_succ])) | (first | go_step3 | ((with_reducible apply sl_want); exact rfl) | ((with_reducible apply sl_load HM); exact rfl; infer_instance; infer_instance; (try simp only [Act.put, List.setIfInBounds_toArray, List.set_cons_zero, List.set_cons_succ])) | ((with_reducible apply sl_store HM); exact rfl; (first | exact Ev.tmp rfl | exact Ev.const); infer_instance; infer_instance; infer_instance; clear HM; (try clear wq); intro wq HM; (try simp only [Act.put, List.setIfInBounds_toArray, List.set_cons_zero, List.set_cons_succ])) | ((with_reducible apply sl_loadR); exact rfl; assumption; (try simp only [Act.put, List.setIfInBounds_toArray, List.set_cons_zero, List.set_cons_succ])) | ((with_reducible apply sl_loadH HM); exact rfl; assumption; infer_instance; (try simp only [Act.put, List.setIfInBounds_toArray, List.set_cons_zero, List.set_cons_succ])) | ((with_reducible refine gate_dst (N := 26) rfl ?_); (with_reducible apply sl_append_lit HM); (first | exact Ev.tmp rfl | exact Ev.const); infer_instance; (first | exact Ev.tmp rfl | exact Ev.const); infer_instance; infer_instance; exact rfl; infer_instance; (first | omega | (simp only [List.length_append, List.length_cons, List.length_nil] at *; omega)); clear HM; (try clear wq); intro v26 wq HM; (try simp only [Act.put, List.setIfInBounds_toArray, List.set_cons_zero, List.set_cons_succ]); haveI := HM.rowOne v26))
  refine wp_drawnB HM gR [] [(0, 1), (1, 1), (2, 1), (3, 1), (4, 1), (5, 1), (6, 2), (7, 1)] (by kernel_rfl) (by kernel_rfl) (by kernel_rfl) (by kernel_rfl) (fun _ _ d _ _ h => by cases d <;> exact h) ?_; clear HM; (try clear wq); intro wq HM
  repeat (first | ((with_reducible refine t_at (n := 2) rfl ?_); (with_reducible apply t_subH (sz := 4) (k)); exact rfl; exact rfl; (first | exact Ev.tmp rfl | exact Ev.const); (first | exact Ev.tmp rfl | exact Ev.const); exact Try.underlying132; (focus kernel_rfl); omega; (try simp only [Act.put, List.setIfInBounds_toArray, List.set_cons_zero, List.set_cons_succ])) | ((with_reducible refine t_at (n := 5) rfl ?_); (with_reducible apply t_subL (sz := 4) (k + 1)); exact rfl; exact rfl; (first | exact Ev.tmp rfl | exact Ev.const); (first | exact Ev.tmp rfl | exact Ev.const); exact Try.underlying132; (focus kernel_rfl); omega; (try simp only [Act.put, List.setIfInBounds_toArray, List.set_cons_zero, List.set_cons_succ])) | ((with_reducible refine t_at (n := 6) rfl ?_); (with_reducible apply t_eff); exact rfl; exact rfl; intro K hK; (with_reducible apply ow_append_in (sz := 4) (news := nw) HM (n - 1)); (first | exact Ev.tmp rfl | exact Ev.const); (first | exact Ev.tmp rfl | exact Ev.const); infer_instance; exact Try.underlying132; (focus kernel_rfl); decide; exact (HRD.out _ HM.sub); exact HSD.out; exact H1.out; exact (by omega); exact hcl; exact (by omega); infer_instance; clear HM; (try clear wq); intro wq HM; refine hK _ _ _ HM inferInstance ?_; clear hK K; (try simp only [Act.put, List.setIfInBounds_toArray, List.set_cons_zero, List.set_cons_succ])) | ((with_reducible apply t_move); exact rfl; exact rfl; (first | exact Ev.tmp rfl | exact Ev.const); (try simp only [Act.put, List.setIfInBounds_toArray, List.set_cons_zero, List.set_cons_succ])) | ((with_reducible apply t_assign); exact rfl; exact rfl; (first | exact Ev.tmp rfl | exact Ev.const); (try simp only [Act.put, List.setIfInBounds_toArray, List.set_cons_zero, List.set_cons_succ])) | ((with_reducible apply t_load HM); exact rfl; exact rfl; exact rfl; infer_instance; infer_instance; infer_instance; (try simp only [Act.put, List.setIfInBounds_toArray, List.set_cons_zero, List.set_cons_succ])) | ((with_reducible apply t_loadH HM); exact rfl; exact rfl; exact rfl; assumption; infer_instance; infer_instance; (try simp only [Act.put, List.setIfInBounds_toArray, List.set_cons_zero, List.set_cons_succ])) | ((with_reducible apply t_skip); exact rfl; exact rfl; (try simp only [Act.put, List.setIfInBounds_toArray, List.set_cons_zero, List.set_cons_succ])) | ((with_reducible apply t_skip0 HM); exact rfl; exact rfl; infer_instance; (try simp only [Act.put, List.setIfInBounds_toArray, List.set_cons_zero, List.set_cons_succ])) | ((with_reducible apply t_skip2 HM); exact rfl; exact rfl; infer_instance; (try simp only [Act.put, List.setIfInBounds_toArray, List.set_cons_zero, List.set_cons_succ])) | ((with_reducible apply t_pure); exact rfl; exact rfl; (focus (intro wv; go_simp; (try (go_ints; (try go_simp))); (first | done | rfl | (rw [if_pos (by omega)]; done)))); (try simp only [Act.put, List.setIfInBounds_toArray, List.set_cons_zero, List.set_cons_succ])) | ((with_reducible refine t_at (n := 6) rfl ?_); ((with_reducible apply t_eff); exact rfl; exact rfl; intro K hK; (with_reducible apply ow_append_lit HM); (first | exact Ev.tmp rfl | exact Ev.const); infer_instance; (first | exact Ev.tmp rfl | exact Ev.const); infer_instance; infer_instance; exact rfl; infer_instance; (first | omega | (simp only [List.length_append, List.length_cons, List.length_nil] at *; omega)); clear HM; (try clear wq); intro v26 wq HM; refine hK _ _ _ HM inferInstance ?_; clear hK K; (try simp only [Act.put, List.setIfInBounds_toArray, List.set_cons_zero, List.set_cons_succ]))))
  refine t_nil ?_
  go_wp2_with first | ((with_reducible apply sl_clear_in (zs := [.int .i64 0, .int .i64 0, .slice none 0 0, .int .i64 0]) HM ((n - 1) * 4)); (first | exact Ev.tmp rfl | exact Ev.const); exact (by unfold subA; rw [if_neg (by omega), Option.map_some, add_at, Nat.zero_add]); exact (by omega); infer_instance; exact Try.underlying132; (focus kernel_rfl); infer_instance; exact (by simp; have := HSD.out; omega); infer_instance; clear HM; (try clear wq); intro wq HM; (try simp only [Act.put, List.setIfInBounds_toArray, List.set_cons_zero, List.set_cons_succ])) | ((with_reducible refine gate_dst (N := 31) rfl ?_); (with_reducible apply sl_subLH (sz := 4) (n - 1) (n)); (first | exact Ev.tmp rfl | exact Ev.const); (first | exact Ev.tmp rfl | exact Ev.const); (first | exact Ev.tmp rfl | exact Ev.const); exact Try.underlying132; (focus kernel_rfl); omega; omega; (try simp only [Act.put, List.setIfInBounds_toArray, List.set_cons_zero, List.set_cons_succ])) | (first | go_step3 | ((with_reducible apply sl_want); exact rfl) | ((with_reducible apply sl_load HM); exact rfl; infer_instance; infer_instance; (try simp only [Act.put, List.setIfInBounds_toArray, List.set_cons_zero, List.set_cons_succ])) | ((with_reducible apply sl_store HM); exact rfl; (first | exact Ev.tmp rfl | exact Ev.const); infer_instance; infer_instance; infer_instance; clear HM; (try clear wq); intro wq HM; (try simp only [Act.put, List.setIfInBounds_toArray, List.set_cons_zero, List.set_cons_succ])) | ((with_reducible apply sl_loadR); exact rfl; assumption; (try simp only [Act.put, List.setIfInBounds_toArray, List.set_cons_zero, List.set_cons_succ])) | ((with_reducible apply sl_loadH HM); exact rfl; assumption; infer_instance; (try simp only [Act.put, List.setIfInBounds_toArray, List.set_cons_zero, List.set_cons_succ])) | ((with_reducible refine gate_dst (N := 26) rfl ?_); (with_reducible apply sl_append_lit HM); (first | exact Ev.tmp rfl | exact Ev.const); infer_instance; (first | exact Ev.tmp rfl | exact Ev.const); infer_instance; infer_instance; exact rfl; infer_instance; (first | omega | (simp only [List.length_append, List.length_cons, List.length_nil] at *; omega)); clear HM; (try clear wq); intro v26 wq HM; (try simp only [Act.put, List.setIfInBounds_toArray, List.set_cons_zero, List.set_cons_succ]); haveI := HM.rowOne v26))
  have hl1 : (cs.take (k * 4) ++ nw).length = (n - 1) * 4 := by rw [List.length_append, List.length_take, HSD.out, hcl]; omega
  have hl2 : (cs.take (k * 4) ++ nw ++ cs.drop (k * 4 + nw.length)).length = c * 4 := by rw [mid_len _ _ _ (by rw [HSD.out, hcl]; omega), hcl]
  have HM1 := Mod.closeRow (n := n - 1) (c := c) (sz := 4) (xs := sents s (L.eraseIdx k)) HM (by omega) hc2 (by rw [mid_len _ _ _ (by rw [hl2]; simp; omega), hl2]) (by
    rw [List.append_assoc, List.take_left' (by rw [List.length_take, hl2]; omega), List.take_left' hl1, E.out, ← HCT.out, List.take_take, Nat.min_eq_left (by omega)])
  exact sl_ret1 rfl (vals_tmp rfl .nil) ⟨_, rfl, rowLen HM1 hel.out.symm⟩
end Go.Proofs.Ytghfoooldcbdnaa
