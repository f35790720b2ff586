/-
  THE DOCUMENT's ANSWER FOR LAYER 14: a number's bytes, a record's text.
-/
import Derived.Test.YtghfoooldcbdnaaOps
import Derived.Test.YtghfoooldcbdnaaEnc
import Derived.Outline
set_option linter.unusedVariables false
set_option linter.unusedSimpArgs false
namespace Go.Proofs.Ytghfoooldcbdnaa
open Go.RowKit Go.Proofs.Ytghfoooldcbdnaa.SL Go.Proofs.YtghfoooldcbdnaaW.PrintWords

theorem put_byte (bs : List Int) (i : Nat) (x : Int) (h : i < bs.length) : PutAt (bytes bs) i [.int .u8 x] (bytes (bs.set i x)) := by
  refine ⟨⟨?_, by simp; omega⟩⟩
  unfold bytes
  rw [List.map_set, List.set_eq_take_append_cons_drop, if_pos (by simpa using h)]
  simp
theorem drop_set (bs : List Int) (i : Nat) (x : Int) (h : i < bs.length) : (bs.set i x).drop i = x :: bs.drop (i + 1) := by
  rw [List.drop_set, if_neg (by omega), Nat.sub_self, List.drop_eq_getElem_cons h]
  rfl

set_option maxHeartbeats 1000000 in
set_option maxRecDepth 100000 in
theorem low_calls (n : Int) (long : Nat) (hn : 0 ≤ n) (hn2 : n ≤ 18446744073709551615) (hlong : long ≤ 8) (w : World) :
    Calls Try.prog 85 #[.int .u64 n, .int .i64 long] w fun e w' => e = .returned (.string (strOfNums (beB long n))) ∧ Mod w.heap.size w [] w' := by
  have HM := Mod.start w
  go_enter Try.func85, Try.ntmps85
  go_wp2_with (first | ((with_reducible refine gate_dst (N := 8) rfl ?_); (with_reducible apply sl_make HM (z := .int .u8 0) Try.underlying73); kernel_rfl; (first | exact Ev.tmp rfl | exact Ev.const); (first | exact Ev.tmp rfl | exact Ev.const); omega; clear HM; (try clear wq); intro g8 wq HM; (try simp only [Act.put, List.setIfInBounds_toArray, List.set_cons_zero, List.set_cons_succ])) | go_step3 | ((with_reducible apply sl_want); exact rfl) | ((with_reducible apply sl_load HM); exact rfl; infer_instance; infer_instance; (try simp only [Act.put, List.setIfInBounds_toArray, List.set_cons_zero, List.set_cons_succ])) | ((with_reducible apply sl_store HM); exact rfl; (first | exact Ev.tmp rfl | exact Ev.const); infer_instance; infer_instance; infer_instance; clear HM; (try clear wq); intro wq HM; (try simp only [Act.put, List.setIfInBounds_toArray, List.set_cons_zero, List.set_cons_succ])) | ((with_reducible apply sl_loadR); exact rfl; assumption; (try simp only [Act.put, List.setIfInBounds_toArray, List.set_cons_zero, List.set_cons_succ])) | ((with_reducible apply sl_loadH HM); exact rfl; assumption; infer_instance; (try simp only [Act.put, List.setIfInBounds_toArray, List.set_cons_zero, List.set_cons_succ])))
  have e0 : List.replicate long (Value.int .u8 0) = bytes (List.replicate long 0) := by simp
  rw [e0] at HM
  go_loopw [0, 6] (fun v0 v6 wr => ∃ (k : Nat) (bs : List Int), v6 = .int .i64 k ∧ k ≤ long ∧ v0 = .int .u64 (n / 2 ^ (8 * k)) ∧ bs.length = long ∧ Aside0 (bs.drop (long - k) = beB k n) ∧ Aside0 (Mod w.heap.size w [cells g8 (bytes bs) 5] wr)) (fun _ v6 _ => long - (intOf v6).toNat)
  case atStart => exact ⟨0, List.replicate long 0, rfl, by omega, by simp, by simp, ⟨by simp [beB]⟩, ⟨HM⟩⟩
  case round =>
    obtain ⟨k, bs, rfl, hk, rfl, hb, HD, HM0⟩ := hrel
    clear HM
    have HM := HM0.out
    clear HM0
    by_cases hlt : k < long
    · obtain ⟨m, hm⟩ : ∃ m, m = n / 2 ^ (8 * k) := ⟨_, rfl⟩
      have hm0 : 0 ≤ m := by rw [hm]; exact Int.ediv_nonneg hn (Int.le_of_lt (Int.pow_pos (by decide)))
      have hm1 : m ≤ 18446744073709551615 := by rw [hm]; exact Int.le_trans (Int.ediv_le_self _ hn) hn2
      have hq : m / 256 = n / 2 ^ (8 * (k + 1)) := by
        rw [hm, Int.ediv_ediv_of_nonneg (Int.pow_nonneg (by decide)), Nat.mul_add, Int.pow_add]; rfl
      have HQ := Aside0.mk hq
      have HB := Aside0.mk hm
      rw [← hm]
      clear hq hm
      haveI := put_byte bs (long - 1 - k) (m % 256) (by omega)
      go_wp2_with (first | go_step3 | ((with_reducible apply sl_want); exact rfl) | ((with_reducible apply sl_load HM); exact rfl; infer_instance; infer_instance; (try simp only [Act.put, List.setIfInBounds_toArray, List.set_cons_zero, List.set_cons_succ])) | ((with_reducible apply sl_store HM); exact rfl; (first | exact Ev.tmp rfl | exact Ev.const); infer_instance; infer_instance; infer_instance; clear HM; (try clear wq); intro wq HM; (try simp only [Act.put, List.setIfInBounds_toArray, List.set_cons_zero, List.set_cons_succ])) | ((with_reducible apply sl_loadR); exact rfl; assumption; (try simp only [Act.put, List.setIfInBounds_toArray, List.set_cons_zero, List.set_cons_succ])) | ((with_reducible apply sl_loadH HM); exact rfl; assumption; infer_instance; (try simp only [Act.put, List.setIfInBounds_toArray, List.set_cons_zero, List.set_cons_succ])))
      have e2 : m / 256 = n / 2 ^ (8 * (k + 1)) := HQ.out
      have e3 : (bs.set (long - 1 - k) (m % 256)).drop (long - (k + 1)) = beB (k + 1) n := by
        rw [show long - (k + 1) = long - 1 - k from by omega, drop_set bs _ _ (by omega), show long - 1 - k + 1 = long - k from by omega, HD.out, HB.out]
        rfl
      refine ⟨⟨k + 1, bs.set (long - 1 - k) (m % 256), rfl, hlt, by rw [e2], by rw [List.length_set]; exact hb, ⟨e3⟩, ⟨?_⟩⟩, by simp only [intOf]; omega⟩
      exact HM.sub
    · have hkl : k = long := by omega
      subst hkl
      have e1 : bs = beB k n := by have := HD.out; simpa using this
      subst e1
      clear hlt hk
      go_wp2_with (first | ((with_reducible apply sl_textB HM Try.underlying73); exact Try.underlying5; exact Try.underlying9; exact rfl; infer_instance; assumption; (try simp only [Act.put, List.setIfInBounds_toArray, List.set_cons_zero, List.set_cons_succ])) | go_step3 | ((with_reducible apply sl_want); exact rfl) | ((with_reducible apply sl_load HM); exact rfl; infer_instance; infer_instance; (try simp only [Act.put, List.setIfInBounds_toArray, List.set_cons_zero, List.set_cons_succ])) | ((with_reducible apply sl_store HM); exact rfl; (first | exact Ev.tmp rfl | exact Ev.const); infer_instance; infer_instance; infer_instance; clear HM; (try clear wq); intro wq HM; (try simp only [Act.put, List.setIfInBounds_toArray, List.set_cons_zero, List.set_cons_succ])) | ((with_reducible apply sl_loadR); exact rfl; assumption; (try simp only [Act.put, List.setIfInBounds_toArray, List.set_cons_zero, List.set_cons_succ])) | ((with_reducible apply sl_loadH HM); exact rfl; assumption; infer_instance; (try simp only [Act.put, List.setIfInBounds_toArray, List.set_cons_zero, List.set_cons_succ])))
      exact sl_ret1 rfl (vals_tmp rfl .nil) ⟨rfl, HM.sub⟩

end Go.Proofs.Ytghfoooldcbdnaa
