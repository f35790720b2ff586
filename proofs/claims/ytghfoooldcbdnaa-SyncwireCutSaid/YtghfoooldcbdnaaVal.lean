/-
  value OF THE DOCUMENT's ANSWER FOR LAYER 14: the number of bytes.
-/
import Derived.Test.YtghfoooldcbdnaaDecW
set_option linter.unusedVariables false
set_option linter.unusedSimpArgs false
namespace Go.Proofs.Ytghfoooldcbdnaa
open Go.RowKit Go.Proofs.Ytghfoooldcbdnaa.SL Go.Proofs.YtghfoooldcbdnaaW.PrintWords
set_option maxHeartbeats 1000000 in
set_option maxRecDepth 100000 in
theorem value_calls (ys : List Int) (A : Option Addr) (c : Nat) (w : World) (hr : Reads w A (bytes ys)) (hl : ys.length ≤ 8) (hb : ∀ x ∈ ys, 0 ≤ x ∧ x < 256) :
    Calls Try.prog 79 #[.slice A ys.length c] w fun e w' => e = .returned (.int .i64 (numB ys)) ∧ w = w' := by
  have HR := Aside0.mk hr
  have HB := Aside0.mk hb
  clear hr hb
  go_enter Try.func79, Try.ntmps79
  go_wp2_with (first | go_step3 | ((with_reducible apply sl_want); exact rfl) | ((with_reducible apply sl_load HM); exact rfl; infer_instance; infer_instance; (try simp only [Act.put, List.setIfInBounds_toArray, List.set_cons_zero, List.set_cons_succ])) | ((with_reducible apply sl_store HM); exact rfl; (first | exact Ev.tmp rfl | exact Ev.const); infer_instance; infer_instance; infer_instance; clear HM; (try clear wq); intro wq HM; (try simp only [Act.put, List.setIfInBounds_toArray, List.set_cons_zero, List.set_cons_succ])) | ((with_reducible apply sl_loadR); exact rfl; assumption; (try simp only [Act.put, List.setIfInBounds_toArray, List.set_cons_zero, List.set_cons_succ])) | ((with_reducible apply sl_loadH HM); exact rfl; assumption; infer_instance; (try simp only [Act.put, List.setIfInBounds_toArray, List.set_cons_zero, List.set_cons_succ])))
  go_loop [3, 4] (fun v3 v4 => ∃ (k : Nat) (n : Int), v3 = .int .u64 n ∧ v4 = .int .i64 k ∧ k ≤ ys.length ∧ 0 ≤ n ∧ n ≤ 18446744073709551615 ∧ Aside0 (n = valB (ys.take k))) (fun _ v4 => ys.length - (intOf v4).toNat)
  case atStart => exact ⟨0, 0, rfl, rfl, by omega, by omega, by omega, ⟨rfl⟩⟩
  case round =>
    obtain ⟨k, n, rfl, rfl, hk, hn0, hn1, HN⟩ := hrel
    by_cases hlt : k < ys.length
    · obtain ⟨ad, rfl⟩ := HR.out.addr (by simp; omega)
      obtain ⟨x, hx⟩ : ∃ x, ys[k]? = some x := ⟨_, List.getElem?_eq_getElem hlt⟩
      have hld : Aside0 ((Instr.loadAt 5 (.pointer (some (ad.add k)))).run Try.prog w = .ok (.int .u8 x) w) := ⟨load_one HR.out k (by simp [hx])⟩
      obtain ⟨x0, x1⟩ := HB.out x (List.mem_of_getElem? hx)
      have HX := Aside0.mk hx
      clear hx
      have hv := valB_range (ys.take k) (fun y hy => HB.out y (List.mem_of_mem_take hy))
      rw [← HN.out, List.length_take, Nat.min_eq_left hk] at hv
      have hp := pow_le (show k ≤ 7 by omega)
      have hn2 : n < 72057594037927936 := by omega
      clear hv hp
      go_wp2_with (first | go_step3 | ((with_reducible apply sl_want); exact rfl) | ((with_reducible apply sl_load HMX); exact rfl; infer_instance; infer_instance; (try simp only [Act.put, List.setIfInBounds_toArray, List.set_cons_zero, List.set_cons_succ])) | ((with_reducible apply sl_store HM); exact rfl; (first | exact Ev.tmp rfl | exact Ev.const); infer_instance; infer_instance; infer_instance; clear HM; (try clear wq); intro wq HM; (try simp only [Act.put, List.setIfInBounds_toArray, List.set_cons_zero, List.set_cons_succ])) | ((with_reducible apply sl_loadR); exact rfl; assumption; (try simp only [Act.put, List.setIfInBounds_toArray, List.set_cons_zero, List.set_cons_succ])) | ((with_reducible apply sl_loadH HM); exact rfl; assumption; infer_instance; (try simp only [Act.put, List.setIfInBounds_toArray, List.set_cons_zero, List.set_cons_succ])))
      refine ⟨⟨k + 1, n * 256 + x, rfl, rfl, hlt, by omega, by omega, ⟨?_⟩⟩, by simp only [intOf]; omega⟩
      rw [List.take_add_one, HX.out, Option.toList_some, valB_snoc, ← HN.out]
    · have hkl : k = ys.length := by omega
      subst hkl
      have e0 : n = valB ys := by rw [HN.out, List.take_length]
      by_cases ht : 4611686018427387904 < n
      · have ht' : decide (4611686018427387904 < n) = true := decide_eq_true ht
        have E : Aside0 (numB ys = -1) := ⟨by unfold numB; rw [if_pos (by omega)]⟩
        clear e0 ht
        go_wp2_with (first | go_step3 | ((with_reducible apply sl_want); exact rfl) | ((with_reducible apply sl_load HMX); exact rfl; infer_instance; infer_instance; (try simp only [Act.put, List.setIfInBounds_toArray, List.set_cons_zero, List.set_cons_succ])) | ((with_reducible apply sl_store HM); exact rfl; (first | exact Ev.tmp rfl | exact Ev.const); infer_instance; infer_instance; infer_instance; clear HM; (try clear wq); intro wq HM; (try simp only [Act.put, List.setIfInBounds_toArray, List.set_cons_zero, List.set_cons_succ])) | ((with_reducible apply sl_loadR); exact rfl; assumption; (try simp only [Act.put, List.setIfInBounds_toArray, List.set_cons_zero, List.set_cons_succ])) | ((with_reducible apply sl_loadH HM); exact rfl; assumption; infer_instance; (try simp only [Act.put, List.setIfInBounds_toArray, List.set_cons_zero, List.set_cons_succ])))
        exact sl_ret1 rfl (vals_tmp rfl .nil) ⟨by rw [E.out], rfl⟩
      · have ht' : decide (4611686018427387904 < n) = false := decide_eq_false ht
        have E : Aside0 (numB ys = n) := ⟨by unfold numB; rw [if_neg (by omega), e0]⟩
        have hn2 : n ≤ 4611686018427387904 := by omega
        clear e0 ht
        go_wp2_with (first | go_step3 | ((with_reducible apply sl_want); exact rfl) | ((with_reducible apply sl_load HMX); exact rfl; infer_instance; infer_instance; (try simp only [Act.put, List.setIfInBounds_toArray, List.set_cons_zero, List.set_cons_succ])) | ((with_reducible apply sl_store HM); exact rfl; (first | exact Ev.tmp rfl | exact Ev.const); infer_instance; infer_instance; infer_instance; clear HM; (try clear wq); intro wq HM; (try simp only [Act.put, List.setIfInBounds_toArray, List.set_cons_zero, List.set_cons_succ])) | ((with_reducible apply sl_loadR); exact rfl; assumption; (try simp only [Act.put, List.setIfInBounds_toArray, List.set_cons_zero, List.set_cons_succ])) | ((with_reducible apply sl_loadH HM); exact rfl; assumption; infer_instance; (try simp only [Act.put, List.setIfInBounds_toArray, List.set_cons_zero, List.set_cons_succ])))
        exact sl_ret1 rfl (vals_tmp rfl .nil) ⟨by rw [E.out], rfl⟩
theorem value_any (ys : List Int) (n : Nat) (A : Option Addr) (c : Nat) (w : World) (h : Aside0 (ys.length = n ∧ (∀ x ∈ ys, 0 ≤ x ∧ x < 256) ∧ Reads w A (bytes ys))) (hn : n ≤ 8) :
    Calls Try.prog 79 #[.slice A n c] w fun e w' => e = .returned (.int .i64 (numB ys)) ∧ w = w' := by
  obtain ⟨rfl, h2, h3⟩ := h.out
  exact value_calls ys A c w h3 hn h2
end Go.Proofs.Ytghfoooldcbdnaa
