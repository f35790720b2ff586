/-
  lay OF PACKAGE syncwire: a number's bytes, the highest first, behind others.
-/
import Derived.Test.YtghfoooldcbdnaaRoom
import Derived.Outline
set_option linter.unusedVariables false
set_option linter.unusedSimpArgs false
namespace Go.Proofs.Ytghfoooldcbdnaa
open Go.RowKit Go.Proofs.Ytghfoooldcbdnaa.SL Go.Proofs.YtghfoooldcbdnaaW.PrintWords

/-- The lowest k bytes of a number, the highest first. -/
def beB : Nat → Int → List Int
  | 0, _ => []
  | k + 1, n => (n / 2 ^ (8 * k)) % 256 :: beB k n
theorem beB_len (n : Int) : ∀ k, (beB k n).length = k
  | 0 => rfl
  | k + 1 => by simp [beB, beB_len n k]
abbrev bytes (l : List Int) : List Value := l.map (Value.int .u8)
instance bytes_ones (l : List Int) : Ones (bytes l) := ⟨by intro u hu; obtain ⟨x, _, rfl⟩ := List.mem_map.1 hu; rfl⟩

set_option maxHeartbeats 1000000 in
set_option maxRecDepth 100000 in
theorem layInt_calls (v : Value) (m : Nat) (xs : List Int) (n : Int) (long : Nat) (hn : 0 ≤ n) (hn2 : n ≤ 4611686018427387904) (hlong : long ≤ 8) (hm : m ≤ 1000000) (B : Nat) (w0 w : World) (H : List As) (HM : Mod B w0 (row v 5 1 m (bytes xs) :: H) w) :
    Calls Try.prog 73 #[v, .int .i64 n, .int .i64 long] w fun e w' => ∃ v', e = .returned v' ∧ Mod B w0 (row v' 5 1 (m + long) (bytes (xs ++ beB long n)) :: H) w' := by
  go_enter Try.func73, Try.ntmps73
  go_wp2_with (first | go_step3 | ((with_reducible apply sl_want); exact rfl) | ((with_reducible apply sl_load HM); exact rfl; infer_instance; infer_instance; (try simp only [Act.put, List.setIfInBounds_toArray, List.set_cons_zero, List.set_cons_succ])) | ((with_reducible apply sl_store HM); exact rfl; (first | exact Ev.tmp rfl | exact Ev.const); infer_instance; infer_instance; infer_instance; clear HM; (try clear wq); intro wq HM; (try simp only [Act.put, List.setIfInBounds_toArray, List.set_cons_zero, List.set_cons_succ])) | ((with_reducible apply sl_loadR); exact rfl; assumption; (try simp only [Act.put, List.setIfInBounds_toArray, List.set_cons_zero, List.set_cons_succ])) | ((with_reducible refine gate_dst (N := 20) rfl ?_); (with_reducible apply sl_lit HM); (focus (go_simp; (try rfl); done)); clear HM; (try clear wq); intro g20 wq HM; (try simp only [Act.put, List.setIfInBounds_toArray, List.set_cons_zero, List.set_cons_succ])) | ((with_reducible refine gate_dst (N := 21) rfl ?_); (with_reducible apply sl_append_lit HM); (first | exact Ev.tmp rfl | exact Ev.const); infer_instance; (first | exact Ev.tmp rfl | exact Ev.const); infer_instance; infer_instance; exact rfl; infer_instance; (first | omega | (simp only [List.length_append, List.length_cons, List.length_nil] at *; omega)); clear HM; (try clear wq); intro v21 wq HM; (try simp only [Act.put, List.setIfInBounds_toArray, List.set_cons_zero, List.set_cons_succ]); haveI := HM.rowOne v21))
  go_loopw [0, 7] (fun v0 v7 wr => ∃ (k : Nat), k ≤ long ∧ v7 = .int .i64 ((k : Int) - 1) ∧ ∃ ys, Aside0 (Mod B w0 (row v0 5 1 (m + (long - k)) (bytes (xs ++ ys)) :: H) wr) ∧ Aside0 (ys ++ beB k n = beB long n)) (fun _ v7 _ => (intOf v7 + 1).toNat)
  case atStart => exact ⟨long, Nat.le_refl _, rfl, [], ⟨by simpa using HM⟩, ⟨rfl⟩⟩
  case round =>
    obtain ⟨k, hk, rfl, ys, HM0, HE⟩ := hrel
    clear HM
    have HM := HM0.out
    clear HM0
    cases k with
    | zero =>
      go_wp2
      have hys : ys = beB long n := by simpa [beB] using HE.out
      subst hys
      exact sl_ret1 rfl (vals_tmp rfl .nil) ⟨_, rfl, HM⟩
    | succ k =>
      go_wp2_with (first | go_step3 | ((with_reducible apply sl_want); exact rfl) | ((with_reducible apply sl_load HM); exact rfl; infer_instance; infer_instance; (try simp only [Act.put, List.setIfInBounds_toArray, List.set_cons_zero, List.set_cons_succ])) | ((with_reducible apply sl_store HM); exact rfl; (first | exact Ev.tmp rfl | exact Ev.const); infer_instance; infer_instance; infer_instance; clear HM; (try clear wq); intro wq HM; (try simp only [Act.put, List.setIfInBounds_toArray, List.set_cons_zero, List.set_cons_succ])) | ((with_reducible apply sl_loadR); exact rfl; assumption; (try simp only [Act.put, List.setIfInBounds_toArray, List.set_cons_zero, List.set_cons_succ])) | ((with_reducible refine gate_dst (N := 20) rfl ?_); (with_reducible apply sl_lit HM); (focus (go_simp; (try rfl); done)); clear HM; (try clear wq); intro g20 wq HM; (try simp only [Act.put, List.setIfInBounds_toArray, List.set_cons_zero, List.set_cons_succ])) | ((with_reducible refine gate_dst (N := 21) rfl ?_); (with_reducible apply sl_append_lit HM); (first | exact Ev.tmp rfl | exact Ev.const); infer_instance; (first | exact Ev.tmp rfl | exact Ev.const); infer_instance; infer_instance; exact rfl; infer_instance; (first | omega | (simp only [List.length_append, List.length_cons, List.length_nil] at *; omega)); clear HM; (try clear wq); intro v21 wq HM; (try simp only [Act.put, List.setIfInBounds_toArray, List.set_cons_zero, List.set_cons_succ]); haveI := HM.rowOne v21))
      refine ⟨⟨k, by omega, rfl, ys ++ [n / 2 ^ (8 * k) % 256], ⟨?_⟩, ⟨by have := HE.out; simpa [beB] using this⟩⟩, by simp [intOf]⟩
      have e1 : m + (long - (k + 1)) + 1 = m + (long - k) := by omega
      have e2 : bytes (xs ++ ys) ++ [Value.int IntKind.u8 (n / 2 ^ (8 * k) % 256)] = bytes (xs ++ (ys ++ [n / 2 ^ (8 * k) % 256])) := by simp
      rw [e1, e2] at HM
      exact HM.sub
end Go.Proofs.Ytghfoooldcbdnaa
