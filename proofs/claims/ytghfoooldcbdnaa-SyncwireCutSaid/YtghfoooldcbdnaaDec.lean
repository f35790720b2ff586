/-
  WHAT Decode OF PACKAGE syncwire IS MADE OF: number, and slices of slices that are read.
-/
import Derived.Test.YtghfoooldcbdnaaOps2
import Derived.Test.YtghfoooldcbdnaaEnc
set_option linter.unusedVariables false
set_option linter.unusedSimpArgs false
namespace Go.Proofs.Ytghfoooldcbdnaa
open Go.RowKit Go.Proofs.Ytghfoooldcbdnaa.SL Go.Proofs.YtghfoooldcbdnaaW.PrintWords

/-- The number of bytes, the highest first. -/
def valB (l : List Int) : Int := l.foldl (fun n x => n * 256 + x) 0
theorem valB_snoc (l : List Int) (x : Int) : valB (l ++ [x]) = valB l * 256 + x := by simp [valB]
theorem foldB_range : ∀ (l : List Int) (acc : Int) (m : Nat), (∀ x ∈ l, 0 ≤ x ∧ x < 256) → 0 ≤ acc → acc < 256 ^ m → 0 ≤ l.foldl (fun n x => n * 256 + x) acc ∧ l.foldl (fun n x => n * 256 + x) acc < 256 ^ (m + l.length)
  | [], acc, m, _, h0, h1 => by simpa using ⟨h0, h1⟩
  | x :: l, acc, m, h, h0, h1 => by
    have hx := h x (by simp)
    have h2 := foldB_range l (acc * 256 + x) (m + 1) (fun y hy => h y (List.mem_cons_of_mem _ hy)) (by omega) (by rw [Int.pow_succ]; omega)
    rw [List.foldl_cons, List.length_cons, show m + (l.length + 1) = m + 1 + l.length from by omega]
    exact h2
theorem valB_range (l : List Int) (h : ∀ x ∈ l, 0 ≤ x ∧ x < 256) : 0 ≤ valB l ∧ valB l < 256 ^ l.length := by
  have := foldB_range l 0 0 h (by omega) (by decide)
  rw [Nat.zero_add] at this
  exact this
/-- The number of bytes; -1: it is too great. -/
def numB (l : List Int) : Int := if 4611686018427387904 < valB l then -1 else valB l
theorem or_byte {n x : Int} (h0 : 0 ≤ n) (h1 : n < 72057594037927936) (x0 : 0 ≤ x) (x1 : x < 256) : bits .or .u64 (IntKind.u64.wrap (n * 256)) x = n * 256 + x := by
  obtain ⟨n, rfl⟩ := Int.eq_ofNat_of_zero_le h0
  obtain ⟨x, rfl⟩ := Int.eq_ofNat_of_zero_le x0
  have e1 : IntKind.u64.wrap ((n : Int) * 256) = ((n * 256 : Nat) : Int) := by
    show (((n : Int) * 256) % 18446744073709551616) = _
    omega
  rw [e1]
  have e2 : bits .or .u64 ((n * 256 : Nat) : Int) (x : Int) = IntKind.u64.wrap ((BitVec.ofInt 64 ((n * 256 : Nat) : Int) ||| BitVec.ofInt 64 (x : Int)).toNat) := rfl
  rw [e2, BitVec.toNat_or, BitVec.ofInt_natCast, BitVec.ofInt_natCast, BitVec.toNat_ofNat, BitVec.toNat_ofNat, Nat.mod_eq_of_lt (by omega), Nat.mod_eq_of_lt (by omega)]
  have e3 : n * 256 ||| x = n * 256 + x := by
    have := Nat.shiftLeft_add_eq_or_of_lt (show x < 2 ^ 8 by omega) n
    rw [Nat.shiftLeft_eq] at this
    exact this.symm
  rw [e3]
  show (((n * 256 + x : Nat) : Int) % 18446744073709551616) = _
  omega
theorem pow_le {k : Nat} (h : k ≤ 7) : (256 : Int) ^ k ≤ 72057594037927936 := by
  have : 256 ^ k ≤ 256 ^ 7 := Nat.pow_le_pow_right (by omega) h
  have e : ((256 ^ k : Nat) : Int) = (256 : Int) ^ k := Int.natCast_pow 256 k
  omega
set_option maxHeartbeats 1000000 in
set_option maxRecDepth 100000 in
theorem number_calls (ys : List Int) (A : Option Addr) (c : Nat) (w : World) (hr : Reads w A (bytes ys)) (hl : ys.length ≤ 8) (hb : ∀ x ∈ ys, 0 ≤ x ∧ x < 256) :
    Calls Try.prog 78 #[.slice A ys.length c] w fun e w' => e = .returned (.int .i64 (numB ys)) ∧ w = w' := by
  have HR := Aside0.mk hr
  have HB := Aside0.mk hb
  clear hr hb
  go_enter Try.func78, Try.ntmps78
  go_wp2_with (first | go_step3 | ((with_reducible apply sl_want); exact rfl) | ((with_reducible apply sl_load HM); exact rfl; infer_instance; infer_instance; (try simp only [Act.put, List.setIfInBounds_toArray, List.set_cons_zero, List.set_cons_succ])) | ((with_reducible apply sl_store HM); exact rfl; (first | exact Ev.tmp rfl | exact Ev.const); infer_instance; infer_instance; infer_instance; clear HM; (try clear wq); intro wq HM; (try simp only [Act.put, List.setIfInBounds_toArray, List.set_cons_zero, List.set_cons_succ])) | ((with_reducible apply sl_loadR); exact rfl; assumption; (try simp only [Act.put, List.setIfInBounds_toArray, List.set_cons_zero, List.set_cons_succ])) | ((with_reducible apply sl_loadH HM); exact rfl; assumption; infer_instance; (try simp only [Act.put, List.setIfInBounds_toArray, List.set_cons_zero, List.set_cons_succ])))
  go_loop [3, 8] (fun v3 v8 => ∃ (k : Nat) (n : Int), v3 = .int .u64 n ∧ v8 = .int .i64 k ∧ k ≤ ys.length ∧ 0 ≤ n ∧ n ≤ 18446744073709551615 ∧ Aside0 (n = valB (ys.take k))) (fun _ v8 => ys.length - (intOf v8).toNat)
  case atStart => exact ⟨0, 0, rfl, rfl, by omega, by omega, by omega, ⟨rfl⟩⟩
  case round =>
    obtain ⟨k, n, rfl, rfl, hk, hn0, hn1, HN⟩ := hrel
    by_cases hlt : k < ys.length
    · obtain ⟨ad, rfl⟩ := HR.out.addr (by simp; omega)
      obtain ⟨x, hx⟩ : ∃ x, ys[k]? = some x := ⟨_, List.getElem?_eq_getElem hlt⟩
      have hld : Aside0 ((Instr.loadAt 5 (.pointer (some (ad.add k)))).run Try.prog w = .ok (.int .u8 x) w) := ⟨load_one HR.out k (by simp [hx])⟩
      obtain ⟨x0, x1⟩ := HB.out x (List.mem_of_getElem? hx)
      have HX := Aside0.mk hx
      clear hx
      go_wp2_with (first | go_step3 | ((with_reducible apply sl_want); exact rfl) | ((with_reducible apply sl_load HMX); exact rfl; infer_instance; infer_instance; (try simp only [Act.put, List.setIfInBounds_toArray, List.set_cons_zero, List.set_cons_succ])) | ((with_reducible apply sl_store HM); exact rfl; (first | exact Ev.tmp rfl | exact Ev.const); infer_instance; infer_instance; infer_instance; clear HM; (try clear wq); intro wq HM; (try simp only [Act.put, List.setIfInBounds_toArray, List.set_cons_zero, List.set_cons_succ])) | ((with_reducible apply sl_loadR); exact rfl; assumption; (try simp only [Act.put, List.setIfInBounds_toArray, List.set_cons_zero, List.set_cons_succ])) | ((with_reducible apply sl_loadH HM); exact rfl; assumption; infer_instance; (try simp only [Act.put, List.setIfInBounds_toArray, List.set_cons_zero, List.set_cons_succ])))
      have hv := valB_range (ys.take k) (fun y hy => HB.out y (List.mem_of_mem_take hy))
      rw [← HN.out, List.length_take, Nat.min_eq_left hk] at hv
      have hp := pow_le (show k ≤ 7 by omega)
      have ho := or_byte hn0 (by omega) x0 x1
      rw [ho]
      refine ⟨⟨k + 1, n * 256 + x, rfl, rfl, hlt, by omega, by omega, ⟨?_⟩⟩, by simp only [intOf]; omega⟩
      rw [List.take_add_one, HX.out, Option.toList_some, valB_snoc, ← HN.out]
    · have hkl : k = ys.length := by omega
      subst hkl
      have e0 : n = valB ys := by rw [HN.out, List.take_length]
      by_cases ht : 4611686018427387904 < n
      · have ht' : decide (4611686018427387904 < n) = true := decide_eq_true ht
        have E : Aside0 (numB ys = -1) := ⟨by unfold numB; rw [if_pos (by omega)]⟩
        clear e0 ht
        go_wp2_with (first | go_step3 | ((with_reducible apply sl_want); exact rfl) | ((with_reducible apply sl_load HMX); exact rfl; infer_instance; infer_instance; (try simp only [Act.put, List.setIfInBounds_toArray, List.set_cons_zero, List.set_cons_succ])) | ((with_reducible apply sl_store HM); exact rfl; (first | exact Ev.tmp rfl | exact Ev.const); infer_instance; infer_instance; infer_instance; clear HM; (try clear wq); intro wq HM; (try simp only [Act.put, List.setIfInBounds_toArray, List.set_cons_zero, List.set_cons_succ])) | ((with_reducible apply sl_loadR); exact rfl; assumption; (try simp only [Act.put, List.setIfInBounds_toArray, List.set_cons_zero, List.set_cons_succ])) | ((with_reducible apply sl_loadH HM); exact rfl; assumption; infer_instance; (try simp only [Act.put, List.setIfInBounds_toArray, List.set_cons_zero, List.set_cons_succ])))
        exact sl_ret1 rfl (vals_tmp rfl .nil) ⟨by rw [E.out], rfl⟩
      · have ht' : decide (4611686018427387904 < n) = false := decide_eq_false ht
        have E : Aside0 (numB ys = n) := ⟨by unfold numB; rw [if_neg (by omega), e0]⟩
        have hn2 : n ≤ 4611686018427387904 := by omega
        clear e0 ht
        go_wp2_with (first | go_step3 | ((with_reducible apply sl_want); exact rfl) | ((with_reducible apply sl_load HMX); exact rfl; infer_instance; infer_instance; (try simp only [Act.put, List.setIfInBounds_toArray, List.set_cons_zero, List.set_cons_succ])) | ((with_reducible apply sl_store HM); exact rfl; (first | exact Ev.tmp rfl | exact Ev.const); infer_instance; infer_instance; infer_instance; clear HM; (try clear wq); intro wq HM; (try simp only [Act.put, List.setIfInBounds_toArray, List.set_cons_zero, List.set_cons_succ])) | ((with_reducible apply sl_loadR); exact rfl; assumption; (try simp only [Act.put, List.setIfInBounds_toArray, List.set_cons_zero, List.set_cons_succ])) | ((with_reducible apply sl_loadH HM); exact rfl; assumption; infer_instance; (try simp only [Act.put, List.setIfInBounds_toArray, List.set_cons_zero, List.set_cons_succ])))
        exact sl_ret1 rfl (vals_tmp rfl .nil) ⟨by rw [E.out], rfl⟩
end Go.Proofs.Ytghfoooldcbdnaa
