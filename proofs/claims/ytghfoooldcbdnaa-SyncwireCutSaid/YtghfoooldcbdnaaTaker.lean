/-
  taker OF PACKAGE syncwire: bytes taken one part behind the other.
-/
import Derived.Test.YtghfoooldcbdnaaDec
import Derived.Test.YtghfoooldcbdnaaOps3
set_option linter.unusedVariables false
set_option linter.unusedSimpArgs false
namespace Go.Proofs.Ytghfoooldcbdnaa
open Go.RowKit Go.Proofs.Ytghfoooldcbdnaa.SL Go.Proofs.YtghfoooldcbdnaaW.PrintWords

/-- What is taken, what is left, whether it was ever too little. -/
def tkY (xs : List Int) (n : Nat) : List Int := if xs.length < n then List.replicate n 0 else xs.take n
def tkR (xs : List Int) (n : Nat) : List Int := if xs.length < n then [] else xs.drop n
def tkS (xs : List Int) (sh : Bool) (n : Nat) : Bool := sh || decide (xs.length < n)
theorem tkY_len (xs : List Int) (n : Nat) : (tkY xs n).length = n := by
  unfold tkY
  split
  · simp
  · simp; omega
theorem byt_take {xs : List Int} (h : ∀ x ∈ xs, 0 ≤ x ∧ x < 256) (n : Nat) : ∀ x ∈ tkY xs n, 0 ≤ x ∧ x < 256 := by
  intro x hx
  unfold tkY at hx
  split at hx
  · have := List.eq_of_mem_replicate hx
    omega
  · exact h x (List.mem_of_mem_take hx)
theorem byt_drop {xs : List Int} (h : ∀ x ∈ xs, 0 ≤ x ∧ x < 256) (n : Nat) : ∀ x ∈ tkR xs n, 0 ≤ x ∧ x < 256 := by
  intro x hx
  unfold tkR at hx
  split at hx
  · cases hx
  · exact h x (List.mem_of_mem_drop hx)
/-- A slice that reads as these bytes, as long as H stands. -/
def Feed (B : Nat) (w0 : World) (H : List As) (xs : List Int) (v : Value) : Prop := ∃ A c, v = .slice A xs.length c ∧ xs.length ≤ c ∧ ∀ w, Mod B w0 H w → Reads w A (bytes xs)

set_option maxHeartbeats 1000000 in
set_option maxRecDepth 100000 in
theorem taker_calls (v : Value) [h1 : SL.One v] (B : Nat) (w0 w : World) (H : List As) (HM : Mod B w0 H w) :
    Calls Try.prog 77 #[v] w fun e w' => ∃ gb gs, e = .returned (.tuple #[.func (.func 92) #[] #[.pointer (some ⟨gb, 0, none⟩), .pointer (some ⟨gs, 0, none⟩)], .func (.func 93) #[] #[.pointer (some ⟨gs, 0, none⟩), .pointer (some ⟨gb, 0, none⟩)]]) ∧ Mod B w0 (cells gb [v] 73 :: cells gs [.bool false] 4 :: H) w' := by
  obtain ⟨c, hc⟩ : ∃ c, v.cells = #[c] ∧ c = v := ⟨v, cells_one h1.one, rfl⟩
  obtain ⟨hc, rfl⟩ := hc
  have HC := Aside0.mk hc
  clear hc
  go_enter Try.func77, Try.ntmps77
  go_wp2_with (first | ((with_reducible refine gate_dst (N := 1) rfl ?_); (with_reducible apply sl_box HM); (first | exact Ev.tmp rfl | exact Ev.const); exact HC.out; clear HM; (try clear wq); intro g1 wq HM; (try simp only [Act.put, List.setIfInBounds_toArray, List.set_cons_zero, List.set_cons_succ])) | go_step3 | ((with_reducible apply sl_want); exact rfl) | ((with_reducible apply sl_load HM); exact rfl; infer_instance; infer_instance; (try simp only [Act.put, List.setIfInBounds_toArray, List.set_cons_zero, List.set_cons_succ])) | ((with_reducible apply sl_store HM); exact rfl; (first | exact Ev.tmp rfl | exact Ev.const); infer_instance; infer_instance; infer_instance; clear HM; (try clear wq); intro wq HM; (try simp only [Act.put, List.setIfInBounds_toArray, List.set_cons_zero, List.set_cons_succ])) | ((with_reducible apply sl_loadR); exact rfl; assumption; (try simp only [Act.put, List.setIfInBounds_toArray, List.set_cons_zero, List.set_cons_succ])) | ((with_reducible apply sl_loadH HM); exact rfl; assumption; infer_instance; (try simp only [Act.put, List.setIfInBounds_toArray, List.set_cons_zero, List.set_cons_succ])) | ((with_reducible refine gate_dst (N := 1) rfl ?_); (with_reducible apply sl_box HM); (first | exact Ev.tmp rfl | exact Ev.const); exact rfl; clear HM; (try clear wq); intro g1 wq HM; (try simp only [Act.put, List.setIfInBounds_toArray, List.set_cons_zero, List.set_cons_succ])) | ((with_reducible refine gate_dst (N := 4) rfl ?_); (with_reducible apply sl_alloc HM); infer_instance; clear HM; (try clear wq); intro g4 wq HM; (try simp only [Act.put, List.setIfInBounds_toArray, List.set_cons_zero, List.set_cons_succ])))
  exact sl_ret rfl (by simp) (vals_tmp rfl (vals_tmp rfl .nil)) ⟨_, _, rfl, HM.sub⟩

/-- What take leaves. -/
def TakerPost (xs : List Int) (sh : Bool) (n gb gs : Nat) (B : Nat) (w0 : World) (H0 H : List As) (e : Ending) (w' : World) : Prop :=
  ∃ A' c' v', e = .returned (.slice A' n c') ∧ Reads w' A' (bytes (tkY xs n)) ∧ Feed B w0 H0 (tkR xs n) v' ∧ Mod B w0 (cells gb [v'] 73 :: cells gs [.bool (tkS xs sh n)] 4 :: H) w'
set_option maxHeartbeats 2000000 in
set_option maxRecDepth 100000 in
theorem take_calls (xs : List Int) (sh : Bool) (v : Value) (n gb gs : Nat) (hn : n ≤ 1000) (B : Nat) (w0 w : World) (H0 H : List As) [hs : Sub H0 H] (hv : Feed B w0 H0 xs v) (HM : Mod B w0 (cells gb [v] 73 :: cells gs [.bool sh] 4 :: H) w) (hx : xs.length ≤ 1000000) :
    Calls Try.prog 92 #[.int .i64 n, .pointer (some ⟨gb, 0, none⟩), .pointer (some ⟨gs, 0, none⟩)] w (TakerPost xs sh n gb gs B w0 H0 H) := by
  obtain ⟨A, c, rfl, hc, hr⟩ := hv
  have HR := Aside0.mk hr
  clear hr
  by_cases hlt : xs.length < n
  · have hd : decide (xs.length < n) = true := decide_eq_true hlt
    have E1 : Aside0 (tkY xs n = List.replicate n 0 ∧ tkR xs n = [] ∧ tkS xs sh n = true) := ⟨by unfold tkY tkR tkS; rw [if_pos hlt, if_pos hlt, decide_eq_true hlt, Bool.or_true]; exact ⟨rfl, rfl, rfl⟩⟩
    clear hlt
    go_enter Try.func92, Try.ntmps92
    go_wp2_with (first | ((with_reducible refine gate_dst (N := 11) rfl ?_); (with_reducible apply sl_make HM (z := .int .u8 0) Try.underlying73); kernel_rfl; (first | exact Ev.tmp rfl | exact Ev.const); (first | exact Ev.tmp rfl | exact Ev.const); omega; clear HM; (try clear wq); intro g11 wq HM; (try simp only [Act.put, List.setIfInBounds_toArray, List.set_cons_zero, List.set_cons_succ])) | go_step3 | ((with_reducible apply sl_want); exact rfl) | ((with_reducible apply sl_load HM); exact rfl; infer_instance; infer_instance; (try simp only [Act.put, List.setIfInBounds_toArray, List.set_cons_zero, List.set_cons_succ])) | ((with_reducible apply sl_store HM); exact rfl; (first | exact Ev.tmp rfl | exact Ev.const); infer_instance; infer_instance; infer_instance; clear HM; (try clear wq); intro wq HM; (try simp only [Act.put, List.setIfInBounds_toArray, List.set_cons_zero, List.set_cons_succ])) | ((with_reducible apply sl_loadR); exact rfl; assumption; (try simp only [Act.put, List.setIfInBounds_toArray, List.set_cons_zero, List.set_cons_succ])) | ((with_reducible apply sl_loadH HM); exact rfl; assumption; infer_instance; (try simp only [Act.put, List.setIfInBounds_toArray, List.set_cons_zero, List.set_cons_succ])))
    refine sl_ret1 rfl (vals_tmp rfl .nil) (show TakerPost _ _ _ _ _ _ _ _ _ _ _ from ⟨_, _, .slice none 0 0, rfl, ?_, ?_, ?_⟩)
    · rw [E1.out.1]
      have e0 : bytes (List.replicate n 0) = List.replicate n (Value.int .u8 0) := by simp
      rw [e0]
      exact fun j u hu => ⟨_, rfl, cells_at (HM.has g11) j u hu⟩
    · rw [E1.out.2.1]
      exact ⟨none, 0, rfl, Nat.le_refl _, fun w _ => Reads.nil _ _⟩
    · rw [E1.out.2.2]
      exact HM.sub
  · have hd : decide (xs.length < n) = false := decide_eq_false hlt
    have hle : n ≤ xs.length := by omega
    have E1 : Aside0 (tkY xs n = xs.take n ∧ tkR xs n = xs.drop n ∧ tkS xs sh n = sh) := ⟨by unfold tkY tkR tkS; rw [if_neg hlt, if_neg hlt, decide_eq_false hlt, Bool.or_false]; exact ⟨rfl, rfl, rfl⟩⟩
    clear hlt
    have hnc : n ≤ c := by omega
    go_enter Try.func92, Try.ntmps92
    go_wp2_with (first | ((with_reducible refine gate_dst (N := 14) rfl ?_); (with_reducible apply sl_subH (sz := 1) (n)); (first | exact Ev.tmp rfl | exact Ev.const); (first | exact Ev.tmp rfl | exact Ev.const); exact Try.underlying73; (focus kernel_rfl); omega; (try simp only [Act.put, List.setIfInBounds_toArray, List.set_cons_zero, List.set_cons_succ])) | ((with_reducible refine gate_dst (N := 17) rfl ?_); (with_reducible apply sl_subL (sz := 1) (n)); (first | exact Ev.tmp rfl | exact Ev.const); (first | exact Ev.tmp rfl | exact Ev.const); exact Try.underlying73; (focus kernel_rfl); omega; (try simp only [Act.put, List.setIfInBounds_toArray, List.set_cons_zero, List.set_cons_succ])) | go_step3 | ((with_reducible apply sl_want); exact rfl) | ((with_reducible apply sl_load HM); exact rfl; infer_instance; infer_instance; (try simp only [Act.put, List.setIfInBounds_toArray, List.set_cons_zero, List.set_cons_succ])) | ((with_reducible apply sl_store HM); exact rfl; (first | exact Ev.tmp rfl | exact Ev.const); infer_instance; infer_instance; infer_instance; clear HM; (try clear wq); intro wq HM; (try simp only [Act.put, List.setIfInBounds_toArray, List.set_cons_zero, List.set_cons_succ])) | ((with_reducible apply sl_loadR); exact rfl; assumption; (try simp only [Act.put, List.setIfInBounds_toArray, List.set_cons_zero, List.set_cons_succ])) | ((with_reducible apply sl_loadH HM); exact rfl; assumption; infer_instance; (try simp only [Act.put, List.setIfInBounds_toArray, List.set_cons_zero, List.set_cons_succ])))
    refine sl_ret1 rfl (vals_tmp rfl .nil) (show TakerPost _ _ _ _ _ _ _ _ _ _ _ from ⟨_, _, .slice (subA A n c 1) (xs.length - n) (c - n), rfl, ?_, ?_, ?_⟩)
    · rw [E1.out.1]
      have h1 := (HR.out _ HM.sub).take n
      rw [show bytes (xs.take n) = (bytes xs).take n from List.map_take]
      exact h1
    · rw [E1.out.2.1]
      refine ⟨subA A n c 1, c - n, by rw [List.length_drop], by rw [List.length_drop]; omega, fun w hw => ?_⟩
      have h1 := (HR.out w hw).drop n c 1 (by simp; omega)
      rw [Nat.mul_one] at h1
      rw [show bytes (xs.drop n) = (bytes xs).drop n from List.map_drop]
      exact h1
    · rw [E1.out.2.2]
      exact HM.sub

set_option maxHeartbeats 1000000 in
set_option maxRecDepth 100000 in
theorem left_calls (xs : List Int) (sh : Bool) (v : Value) (gb gs : Nat) (B : Nat) (w0 w : World) (H0 H : List As) (hv : Feed B w0 H0 xs v) (HM : Mod B w0 (cells gb [v] 73 :: cells gs [.bool sh] 4 :: H) w) (hx : xs.length ≤ 1000000) :
    Calls Try.prog 93 #[.pointer (some ⟨gs, 0, none⟩), .pointer (some ⟨gb, 0, none⟩)] w fun e w' => e = .returned (.bool (sh || !xs.isEmpty)) ∧ w = w' := by
  obtain ⟨A, c, rfl, hc, hr⟩ := hv
  clear hr
  cases sh with
  | true =>
    go_enter Try.func93, Try.ntmps93
    go_wp2_with (first | go_step3 | ((with_reducible apply sl_want); exact rfl) | ((with_reducible apply sl_load HM); exact rfl; infer_instance; infer_instance; (try simp only [Act.put, List.setIfInBounds_toArray, List.set_cons_zero, List.set_cons_succ])) | ((with_reducible apply sl_store HM); exact rfl; (first | exact Ev.tmp rfl | exact Ev.const); infer_instance; infer_instance; infer_instance; clear HM; (try clear wq); intro wq HM; (try simp only [Act.put, List.setIfInBounds_toArray, List.set_cons_zero, List.set_cons_succ])) | ((with_reducible apply sl_loadR); exact rfl; assumption; (try simp only [Act.put, List.setIfInBounds_toArray, List.set_cons_zero, List.set_cons_succ])) | ((with_reducible apply sl_loadH HM); exact rfl; assumption; infer_instance; (try simp only [Act.put, List.setIfInBounds_toArray, List.set_cons_zero, List.set_cons_succ])))
    exact sl_ret1 rfl (vals_tmp rfl .nil) ⟨rfl, rfl⟩
  | false =>
    by_cases h0 : 0 < xs.length
    · have hd : decide (0 < xs.length) = true := decide_eq_true h0
      have E : Aside0 ((false || !xs.isEmpty) = true) := ⟨by cases xs <;> simp_all⟩
      clear h0
      go_enter Try.func93, Try.ntmps93
      go_wp2_with (first | go_step3 | ((with_reducible apply sl_want); exact rfl) | ((with_reducible apply sl_load HM); exact rfl; infer_instance; infer_instance; (try simp only [Act.put, List.setIfInBounds_toArray, List.set_cons_zero, List.set_cons_succ])) | ((with_reducible apply sl_store HM); exact rfl; (first | exact Ev.tmp rfl | exact Ev.const); infer_instance; infer_instance; infer_instance; clear HM; (try clear wq); intro wq HM; (try simp only [Act.put, List.setIfInBounds_toArray, List.set_cons_zero, List.set_cons_succ])) | ((with_reducible apply sl_loadR); exact rfl; assumption; (try simp only [Act.put, List.setIfInBounds_toArray, List.set_cons_zero, List.set_cons_succ])) | ((with_reducible apply sl_loadH HM); exact rfl; assumption; infer_instance; (try simp only [Act.put, List.setIfInBounds_toArray, List.set_cons_zero, List.set_cons_succ])))
      exact sl_ret1 rfl (vals_tmp rfl .nil) ⟨by rw [E.out], rfl⟩
    · have hd : decide (0 < xs.length) = false := decide_eq_false h0
      have E : Aside0 ((false || !xs.isEmpty) = false) := ⟨by cases xs <;> simp_all⟩
      clear h0
      go_enter Try.func93, Try.ntmps93
      go_wp2_with (first | go_step3 | ((with_reducible apply sl_want); exact rfl) | ((with_reducible apply sl_load HM); exact rfl; infer_instance; infer_instance; (try simp only [Act.put, List.setIfInBounds_toArray, List.set_cons_zero, List.set_cons_succ])) | ((with_reducible apply sl_store HM); exact rfl; (first | exact Ev.tmp rfl | exact Ev.const); infer_instance; infer_instance; infer_instance; clear HM; (try clear wq); intro wq HM; (try simp only [Act.put, List.setIfInBounds_toArray, List.set_cons_zero, List.set_cons_succ])) | ((with_reducible apply sl_loadR); exact rfl; assumption; (try simp only [Act.put, List.setIfInBounds_toArray, List.set_cons_zero, List.set_cons_succ])) | ((with_reducible apply sl_loadH HM); exact rfl; assumption; infer_instance; (try simp only [Act.put, List.setIfInBounds_toArray, List.set_cons_zero, List.set_cons_succ])))
      exact sl_ret1 rfl (vals_tmp rfl .nil) ⟨by rw [E.out], rfl⟩
end Go.Proofs.Ytghfoooldcbdnaa
