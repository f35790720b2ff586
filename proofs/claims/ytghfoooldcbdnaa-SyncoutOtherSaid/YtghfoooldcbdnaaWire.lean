/-
  RECORDS OF BATCHES, AND THE SMALL FUNCTIONS OF PACKAGE syncwire THAT LOOK AT THEM: within, Right, size, Room; ipv.Right.
-/
import Derived.Test.YtghfoooldcbdnaaTy
set_option linter.unusedVariables false
set_option linter.unusedSimpArgs false
namespace Go.Proofs.Ytghfoooldcbdnaa
open Go.RowKit Go.Proofs.Ytghfoooldcbdnaa.SL Go.Proofs.YtghfoooldcbdnaaW.PrintWords

/-- A record. -/
structure Rec where
  pr : Int
  fr : ByteArray
  tt : ByteArray
  po : Int
  de : Int
  ba : Int
  st : Int
  le : Int
  deriving DecidableEq
abbrev Rec.cells (r : Rec) : List Value := [.int .i64 r.pr, .string r.fr, .string r.tt, .int .i64 r.po, .int .i64 r.de, .int .i64 r.ba, .int .i64 r.st, .int .i64 r.le]

def inB (n a b : Int) : Bool := decide (a ≤ n) && decide (n ≤ b)
def okA (s : ByteArray) : Bool := s.size == 4 || s.size == 16

set_option maxHeartbeats 400000 in
theorem within_calls (n a b : Int) (w : World) : Calls Try.prog 72 #[.int .i64 n, .int .i64 a, .int .i64 b] w fun e w' => e = .returned (.bool (inB n a b)) ∧ w = w' := by
  by_cases h1 : a ≤ n
  · by_cases h2 : n ≤ b
    · have e : inB n a b = true := by simp [inB, h1, h2]
      have E := Aside0.mk e
      clear e
      go_enter Try.func72, Try.ntmps72
      go_wp2
      refine sl_ret1 rfl (vals_tmp rfl .nil) ⟨by rw [E.out], rfl⟩
    · have e : inB n a b = false := by simp [inB, h2]
      have E := Aside0.mk e
      clear e
      go_enter Try.func72, Try.ntmps72
      go_wp2
      refine sl_ret1 rfl (vals_tmp rfl .nil) ⟨by rw [E.out], rfl⟩
  · have e : inB n a b = false := by simp [inB, h1]
    have E := Aside0.mk e
    clear e
    go_enter Try.func72, Try.ntmps72
    go_wp2
    refine sl_ret1 rfl (vals_tmp rfl .nil) ⟨by rw [E.out], rfl⟩

set_option maxHeartbeats 400000 in
theorem ipvRight_calls (s : ByteArray) (hs : s.size ≤ maxLen) (w : World) : Calls Try.prog 91 #[.string s] w fun e w' => e = .returned (.bool (okA s)) ∧ w = w' := by
  unfold maxLen at hs
  have E : Aside0 (okA s = ((s.size : Int) == 4 || (s.size : Int) == 16)) := ⟨by unfold okA; rw [Bool.eq_iff_iff]; simp; omega⟩
  go_enter Try.func91, Try.ntmps91
  go_wp2
  all_goals (refine sl_ret1 rfl (vals_tmp rfl .nil) ⟨by first | (rw [E.out]; done) | (rw [E.out]; simp [*]), rfl⟩)


/-- A record that may be. -/
def Rec.ok (r : Rec) : Bool := inB r.pr 0 255 && (okA r.fr && (((r.fr.size : Int) == (r.tt.size : Int)) && (inB r.po 0 65535 && (inB r.de 0 65535 && (inB r.ba 0 15 && (inB r.st 1 4 && inB r.le 0 65535))))))

set_option maxHeartbeats 1000000 in
theorem Right_calls (r : Rec) (h1 : r.fr.size ≤ maxLen) (h2 : r.tt.size ≤ maxLen) (w : World) : Calls Try.prog 68 #[.agg r.cells.toArray] w fun e w' => e = .returned (.bool r.ok) ∧ Mod w.heap.size w [] w' := by
  obtain ⟨pr, fr, tt, po, de, ba, st, le⟩ := r
  have HM := Mod.start w
  have L2 := Aside0.mk h1
  unfold maxLen at h1 h2
  simp only [Rec.cells]
  go_enter Try.func68, Try.ntmps68
  go_wp2_with (first | (go_at_call 72; refine (within_calls _ _ _ _).mono ?_; rintro e w1 ⟨rfl, rfl⟩) | (go_at_call 91; refine (ipvRight_calls _ L2.out _).mono ?_; rintro e w1 ⟨rfl, rfl⟩) | go_step3 | ((with_reducible apply sl_want); exact rfl) | ((with_reducible apply sl_load HM); exact rfl; infer_instance; infer_instance; (try simp only [Act.put, List.setIfInBounds_toArray, List.set_cons_zero, List.set_cons_succ])) | ((with_reducible apply sl_store HM); exact rfl; (first | exact Ev.tmp rfl | exact Ev.const); infer_instance; infer_instance; infer_instance; clear HM; (try clear wq); intro wq HM; (try simp only [Act.put, List.setIfInBounds_toArray, List.set_cons_zero, List.set_cons_succ])) | ((with_reducible apply sl_loadR); exact rfl; assumption; (try simp only [Act.put, List.setIfInBounds_toArray, List.set_cons_zero, List.set_cons_succ])) | ((with_reducible refine gate_dst (N := 1) rfl ?_); (with_reducible apply sl_box HM); (first | exact Ev.tmp rfl | exact Ev.const); exact rfl; clear HM; (try clear wq); intro g1 wq HM; (try simp only [Act.put, List.setIfInBounds_toArray, List.set_cons_zero, List.set_cons_succ])) | ((with_reducible refine gate_dst (N := 3) rfl ?_); (with_reducible apply sl_alloc HM); infer_instance; clear HM; (try clear wq); intro g3 wq HM; (try simp only [Act.put, List.setIfInBounds_toArray, List.set_cons_zero, List.set_cons_succ])))
  all_goals (refine sl_ret1 rfl (vals_tmp rfl .nil) ⟨by simp [Rec.ok, *], HM.sub⟩)


abbrev Rec.size (r : Rec) : Nat := 10 + r.fr.size + r.tt.size
set_option maxHeartbeats 400000 in
theorem size_calls (r : Rec) (h1 : r.fr.size ≤ 140737488355328) (h2 : r.tt.size ≤ 140737488355328) (w : World) : Calls Try.prog 83 #[.agg r.cells.toArray] w fun e w' => e = .returned (.int .i64 r.size) ∧ Mod w.heap.size w [] w' := by
  obtain ⟨pr, fr, tt, po, de, ba, st, le⟩ := r
  have HM := Mod.start w
  simp only [Rec.cells, Rec.size]
  simp only at h1 h2
  go_enter Try.func83, Try.ntmps83
  go_wp2_with (first | go_step3 | ((with_reducible apply sl_want); exact rfl) | ((with_reducible apply sl_load HM); exact rfl; infer_instance; infer_instance; (try simp only [Act.put, List.setIfInBounds_toArray, List.set_cons_zero, List.set_cons_succ])) | ((with_reducible apply sl_store HM); exact rfl; (first | exact Ev.tmp rfl | exact Ev.const); infer_instance; infer_instance; infer_instance; clear HM; (try clear wq); intro wq HM; (try simp only [Act.put, List.setIfInBounds_toArray, List.set_cons_zero, List.set_cons_succ])) | ((with_reducible apply sl_loadR); exact rfl; assumption; (try simp only [Act.put, List.setIfInBounds_toArray, List.set_cons_zero, List.set_cons_succ])) | ((with_reducible refine gate_dst (N := 1) rfl ?_); (with_reducible apply sl_box HM); (first | exact Ev.tmp rfl | exact Ev.const); exact rfl; clear HM; (try clear wq); intro g1 wq HM; (try simp only [Act.put, List.setIfInBounds_toArray, List.set_cons_zero, List.set_cons_succ])))
  refine sl_ret1 rfl (vals_tmp rfl .nil) ⟨by simp, HM.sub⟩

/-- How many records a batch takes: n bytes so far, k records so far. -/
def roomGo : Nat → Nat → List Rec → Nat
  | _, k, [] => k
  | n, k, r :: l => if 64 ≤ k ∨ 1400 < n + r.size then k else roomGo (n + r.size) (k + 1) l
def room (l : List Rec) : Nat := roomGo 19 0 l

end Go.Proofs.Ytghfoooldcbdnaa
