/-
  THE SENDER OF PACKAGE syncout: Take, where the answer is of another run or tells of a gap.
-/
import Derived.Test.YtghfoooldcbdnaaSnd4
set_option linter.unusedVariables false
set_option linter.unusedSimpArgs false
namespace Go.Proofs.Ytghfoooldcbdnaa
open Go.RowKit Go.Proofs.Ytghfoooldcbdnaa.SL Go.Proofs.YtghfoooldcbdnaaW.PrintWords

/-- The batches behind one number are due at once. -/
def Sn.late (an now : Int) (x : Sn) : Sn := if an < x.n then { x with due := now } else x
def lateK (an now : Int) (rg : List Sn) (k : Nat) : List Sn := (rg.take k).map (Sn.late an now) ++ rg.drop k
theorem late_own (an now : Int) (x : Sn) : (x.late an now).own = x.own := by
  unfold Sn.late
  split <;> rfl
theorem lateK_own (an now : Int) (rg : List Sn) (k : Nat) : (lateK an now rg k).map Sn.own = rg.map Sn.own := by
  unfold lateK
  rw [List.map_append, List.map_map, show Sn.own ∘ Sn.late an now = Sn.own from funext (late_own an now), ← List.map_append, List.take_append_drop]
theorem lateK_len (an now : Int) (rg : List Sn) (k : Nat) : (lateK an now rg k).length = rg.length := by
  unfold lateK
  rw [List.length_append, List.length_map, ← List.length_append, List.take_append_drop]
theorem lateK_zero (an now : Int) (rg : List Sn) : lateK an now rg 0 = rg := by simp [lateK]
theorem lateK_all (an now : Int) (rg : List Sn) : lateK an now rg rg.length = rg.map (Sn.late an now) := by simp [lateK]
theorem lateK_at {an now : Int} {rg : List Sn} {k : Nat} {x : Sn} (h : rg[k]? = some x) : (lateK an now rg k)[k]? = some x := by
  unfold lateK
  have hk : k < rg.length := (List.getElem?_eq_some_iff.1 h).1
  rw [List.getElem?_append_right (by simp; omega), List.getElem?_drop]
  simp only [List.length_map, List.length_take]
  rw [show k + (k - min k rg.length) = k by omega, h]
theorem lateK_succ {an now : Int} {rg : List Sn} {k : Nat} {x : Sn} (h : rg[k]? = some x) : lateK an now rg (k + 1) = (lateK an now rg k).set k (x.late an now) := by
  have hk : k < rg.length := (List.getElem?_eq_some_iff.1 h).1
  have hx : rg[k] = x := by
    rw [List.getElem?_eq_getElem hk] at h
    injection h
  unfold lateK
  rw [List.take_add_one, h, List.map_append, List.set_append_right _ _ (by simp; omega)]
  rw [List.drop_eq_getElem_cons hk]
  simp only [List.length_map, List.length_take]
  rw [show k - min k rg.length = 0 by omega, List.set_cons_zero]
  simp
theorem set_same {l : List Sn} {k : Nat} {x : Sn} (h : l[k]? = some x) : l.set k x = l := by
  have hk : k < l.length := (List.getElem?_eq_some_iff.1 h).1
  rw [List.getElem?_eq_getElem hk] at h
  injection h with h
  rw [← h, List.set_getElem_self]
theorem set_due (s : Int) : ∀ (l : List Sn) (k : Nat) (x : Sn) (d : Int), l[k]? = some x → sents s (l.set k { x with due := d }) = (sents s l).take (k * 4 + 3) ++ [.int .i64 d] ++ (sents s l).drop (k * 4 + 4)
  | [], k, x, d, h => by simp at h
  | y :: l, 0, x, d, h => by
    have e : y = x := by simpa using h
    subst e
    simp only [sents, List.set_cons_zero, List.flatMap_cons]
    rfl
  | y :: l, k + 1, x, d, h => by
    have h1 := set_due s l k x d (by simpa using h)
    simp only [sents, List.set_cons_succ, List.flatMap_cons] at h1 ⊢
    rw [h1]
    have e1 : (k + 1) * 4 + 3 = (y.cells s).length + (k * 4 + 3) := by rw [sn_len]; omega
    have e2 : (k + 1) * 4 + 4 = (y.cells s).length + (k * 4 + 4) := by rw [sn_len]; omega
    rw [e2, e1, List.take_append, List.drop_append, List.take_of_length_le (l := y.cells s) (by omega), List.drop_eq_nil_of_le (show (y.cells s).length ≤ (y.cells s).length + (k * 4 + 4) by omega), List.nil_append]
    simp only [Nat.add_sub_cancel_left, List.append_assoc]
theorem seg_one {cs : List Value} {i : Nat} {v : Value} (h : cs[i]? = some v) : SegAt cs i 1 [v] := by
  obtain ⟨hi, rfl⟩ := List.getElem?_eq_some_iff.1 h
  exact ⟨⟨by rw [List.drop_eq_getElem_cons hi]; rfl, by omega⟩⟩
theorem seg_take {cs xs : List Value} {m i : Nat} {v : Value} (h : cs.take m = xs) (hx : xs[i]? = some v) : SegAt cs i 1 [v] := by
  refine seg_one ?_
  have hi := (List.getElem?_eq_some_iff.1 hx).1
  rw [← h, List.length_take] at hi
  rw [← h, List.getElem?_take_of_lt (by omega)] at hx
  exact hx

abbrev ansC (as0 an : Int) (ag : Bool) (af : Int) : List Value := [.int .i64 as0, .int .i64 an, .bool ag, .int .u64 af]
set_option maxHeartbeats 4000000 in
set_option maxRecDepth 100000 in
theorem Take_other (g : Nat) (S : SS) (as0 an af now : Int) (ag : Bool) (hs : as0 ≠ S.s) (B : Nat) (w0 w : World) (H : List As) (HM : SL.Mod B w0 (snd g S :: H) w) :
    Calls Try.prog 36 #[.pointer (some ⟨g, 0, none⟩), .agg (ansC as0 an ag af).toArray, .int .i64 now] w fun e w' => e = .returned (.bool false) ∧ SL.Mod B w0 (snd g S :: H) w' := by
  obtain ⟨gm, AQ, cQ, AR, cR, HM1⟩ := Mod.openSnd HM
  clear HM
  have HM := HM1
  clear HM1
  have hd : (as0 != S.s) = true := by simpa using hs
  have hd2 : (as0 == S.s) = false := by simpa using hs
  clear hs
  go_enter Try.func36, Try.ntmps36
  go_wp2_with (first | go_step3 | ((with_reducible apply sl_want); exact rfl) | ((with_reducible apply sl_load HM); exact rfl; infer_instance; infer_instance; (try simp only [Act.put, List.setIfInBounds_toArray, List.set_cons_zero, List.set_cons_succ])) | ((with_reducible apply sl_store HM); exact rfl; (first | exact Ev.tmp rfl | exact Ev.const); infer_instance; infer_instance; infer_instance; clear HM; (try clear wq); intro wq HM; (try simp only [Act.put, List.setIfInBounds_toArray, List.set_cons_zero, List.set_cons_succ])) | ((with_reducible apply sl_loadR); exact rfl; assumption; (try simp only [Act.put, List.setIfInBounds_toArray, List.set_cons_zero, List.set_cons_succ])) | ((with_reducible apply sl_loadH HM); exact rfl; assumption; infer_instance; (try simp only [Act.put, List.setIfInBounds_toArray, List.set_cons_zero, List.set_cons_succ])) | ((with_reducible refine gate_dst (N := 4) rfl ?_); (with_reducible apply sl_box HM); (first | exact Ev.tmp rfl | exact Ev.const); exact rfl; clear HM; (try clear wq); intro g4 wq HM; (try simp only [Act.put, List.setIfInBounds_toArray, List.set_cons_zero, List.set_cons_succ])) | ((with_reducible refine gate_dst (N := 10) rfl ?_); (with_reducible apply sl_alloc HM); infer_instance; clear HM; (try clear wq); intro g10 wq HM; (try simp only [Act.put, List.setIfInBounds_toArray, List.set_cons_zero, List.set_cons_succ])))
  refine wp_drawnS HM [] [(0, 1), (1, 0), (2, 1), (3, 1), (4, 1), (5, 0), (6, 1)] (by kernel_rfl) (by kernel_rfl) (by kernel_rfl) (by kernel_rfl) (fun _ _ d _ _ h => by cases d <;> exact h) ?_; clear HM; (try clear wq); intro wq HM
  repeat (first | ((with_reducible apply t_move); exact rfl; exact rfl; (first | exact Ev.tmp rfl | exact Ev.const); (try simp only [Act.put, List.setIfInBounds_toArray, List.set_cons_zero, List.set_cons_succ])) | ((with_reducible apply t_assign); exact rfl; exact rfl; (first | exact Ev.tmp rfl | exact Ev.const); (try simp only [Act.put, List.setIfInBounds_toArray, List.set_cons_zero, List.set_cons_succ])) | ((with_reducible apply t_load HM); exact rfl; exact rfl; exact rfl; infer_instance; infer_instance; infer_instance; (try simp only [Act.put, List.setIfInBounds_toArray, List.set_cons_zero, List.set_cons_succ])) | ((with_reducible apply t_loadH HM); exact rfl; exact rfl; exact rfl; assumption; infer_instance; infer_instance; (try simp only [Act.put, List.setIfInBounds_toArray, List.set_cons_zero, List.set_cons_succ])) | ((with_reducible apply t_skip); exact rfl; exact rfl; (try simp only [Act.put, List.setIfInBounds_toArray, List.set_cons_zero, List.set_cons_succ])) | ((with_reducible apply t_skip0 HM); exact rfl; exact rfl; infer_instance; (try simp only [Act.put, List.setIfInBounds_toArray, List.set_cons_zero, List.set_cons_succ])) | ((with_reducible apply t_skip2 HM); exact rfl; exact rfl; infer_instance; (try simp only [Act.put, List.setIfInBounds_toArray, List.set_cons_zero, List.set_cons_succ])) | ((with_reducible apply t_pure); exact rfl; exact rfl; (focus (intro wv; go_simp; (try (go_ints; (try go_simp))); (first | done | rfl | (rw [if_pos (by omega)]; done)))); (try simp only [Act.put, List.setIfInBounds_toArray, List.set_cons_zero, List.set_cons_succ])))
  refine t_nil ?_
  go_wp2_with (first | go_step3 | ((with_reducible apply sl_want); exact rfl) | ((with_reducible apply sl_load HM); exact rfl; infer_instance; infer_instance; (try simp only [Act.put, List.setIfInBounds_toArray, List.set_cons_zero, List.set_cons_succ])) | ((with_reducible apply sl_store HM); exact rfl; (first | exact Ev.tmp rfl | exact Ev.const); infer_instance; infer_instance; infer_instance; clear HM; (try clear wq); intro wq HM; (try simp only [Act.put, List.setIfInBounds_toArray, List.set_cons_zero, List.set_cons_succ])) | ((with_reducible apply sl_loadR); exact rfl; assumption; (try simp only [Act.put, List.setIfInBounds_toArray, List.set_cons_zero, List.set_cons_succ])) | ((with_reducible apply sl_loadH HM); exact rfl; assumption; infer_instance; (try simp only [Act.put, List.setIfInBounds_toArray, List.set_cons_zero, List.set_cons_succ])) | ((with_reducible refine gate_dst (N := 4) rfl ?_); (with_reducible apply sl_box HM); (first | exact Ev.tmp rfl | exact Ev.const); exact rfl; clear HM; (try clear wq); intro g4 wq HM; (try simp only [Act.put, List.setIfInBounds_toArray, List.set_cons_zero, List.set_cons_succ])) | ((with_reducible refine gate_dst (N := 10) rfl ?_); (with_reducible apply sl_alloc HM); infer_instance; clear HM; (try clear wq); intro g10 wq HM; (try simp only [Act.put, List.setIfInBounds_toArray, List.set_cons_zero, List.set_cons_succ])))
  exact sl_ret1 rfl (vals_tmp rfl .nil) ⟨rfl, (Mod.closeSnd (gm := gm) (vQ := .slice AQ S.q.length cQ) (vR := .slice AR S.rg.length cR) HM.sub)⟩
abbrev gapL (g gm : Nat) (AQ : Option Addr) (cQ : Nat) (AR : Option Addr) (n cR : Nat) (S : SS) (rg : List Sn) (H : List As) (g4 : Nat) (cs : List Value) : List As :=
  row (.slice AR n cR) 140 4 n (sents S.s rg) :: cells g4 cs 42 :: cells g [.int .i64 S.s, .int .i64 S.ev, .int .i64 S.nx, .slice AQ S.q.length cQ, .slice AR n cR, .map (some gm)] 134 :: row (.slice AQ S.q.length cQ) 53 8 S.q.length (recs S.q) :: kmap gm (S.kn.map kenc) :: SL.star (S.rg.map Sn.own) :: H
set_option maxHeartbeats 4000000 in
set_option maxRecDepth 100000 in
theorem SndTake_gap (g : Nat) (S : SS) (as0 an af now : Int) (hs : as0 = S.s) (hl : S.rg.length ≤ 1000000) (B : Nat) (w0 w : World) (H : List As) (HM : SL.Mod B w0 (snd g S :: H) w) :
    Calls Try.prog 36 #[.pointer (some ⟨g, 0, none⟩), .agg (ansC as0 an true af).toArray, .int .i64 now] w fun e w' => e = .returned (.bool true) ∧ SL.Mod B w0 (snd g { S with rg := S.rg.map (Sn.late an now) } :: H) w' := by
  subst hs
  obtain ⟨gm, AQ, cQ, AR, cR, HM1⟩ := Mod.openSnd HM
  clear HM
  have HM := HM1
  clear HM1
  have hd : (S.s != S.s) = false := by simp
  obtain ⟨n, hn⟩ : ∃ n, n = S.rg.length := ⟨_, rfl⟩
  have HN := Aside0.mk hn
  rw [← hn] at HM hl
  clear hn
  go_enter Try.func36, Try.ntmps36
  go_wp2_with (first | go_step3 | ((with_reducible apply sl_want); exact rfl) | ((with_reducible apply sl_load HM); exact rfl; infer_instance; infer_instance; (try simp only [Act.put, List.setIfInBounds_toArray, List.set_cons_zero, List.set_cons_succ])) | ((with_reducible apply sl_store HM); exact rfl; (first | exact Ev.tmp rfl | exact Ev.const); infer_instance; infer_instance; infer_instance; clear HM; (try clear wq); intro wq HM; (try simp only [Act.put, List.setIfInBounds_toArray, List.set_cons_zero, List.set_cons_succ])) | ((with_reducible apply sl_loadR); exact rfl; assumption; (try simp only [Act.put, List.setIfInBounds_toArray, List.set_cons_zero, List.set_cons_succ])) | ((with_reducible apply sl_loadH HM); exact rfl; assumption; infer_instance; (try simp only [Act.put, List.setIfInBounds_toArray, List.set_cons_zero, List.set_cons_succ])) | ((with_reducible refine gate_dst (N := 4) rfl ?_); (with_reducible apply sl_box HM); (first | exact Ev.tmp rfl | exact Ev.const); exact rfl; clear HM; (try clear wq); intro g4 wq HM; (try simp only [Act.put, List.setIfInBounds_toArray, List.set_cons_zero, List.set_cons_succ])) | ((with_reducible refine gate_dst (N := 10) rfl ?_); (with_reducible apply sl_alloc HM); infer_instance; clear HM; (try clear wq); intro g10 wq HM; (try simp only [Act.put, List.setIfInBounds_toArray, List.set_cons_zero, List.set_cons_succ])))
  refine wp_drawnS HM [] [(0, 1), (1, 0), (2, 1), (3, 1), (4, 1), (5, 0), (6, 1)] (by kernel_rfl) (by kernel_rfl) (by kernel_rfl) (by kernel_rfl) (fun _ _ d _ _ h => by cases d <;> exact h) ?_; clear HM; (try clear wq); intro wq HM
  repeat (first | ((with_reducible apply t_move); exact rfl; exact rfl; (first | exact Ev.tmp rfl | exact Ev.const); (try simp only [Act.put, List.setIfInBounds_toArray, List.set_cons_zero, List.set_cons_succ])) | ((with_reducible apply t_assign); exact rfl; exact rfl; (first | exact Ev.tmp rfl | exact Ev.const); (try simp only [Act.put, List.setIfInBounds_toArray, List.set_cons_zero, List.set_cons_succ])) | ((with_reducible apply t_load HM); exact rfl; exact rfl; exact rfl; infer_instance; infer_instance; infer_instance; (try simp only [Act.put, List.setIfInBounds_toArray, List.set_cons_zero, List.set_cons_succ])) | ((with_reducible apply t_loadH HM); exact rfl; exact rfl; exact rfl; assumption; infer_instance; infer_instance; (try simp only [Act.put, List.setIfInBounds_toArray, List.set_cons_zero, List.set_cons_succ])) | ((with_reducible apply t_skip); exact rfl; exact rfl; (try simp only [Act.put, List.setIfInBounds_toArray, List.set_cons_zero, List.set_cons_succ])) | ((with_reducible apply t_skip0 HM); exact rfl; exact rfl; infer_instance; (try simp only [Act.put, List.setIfInBounds_toArray, List.set_cons_zero, List.set_cons_succ])) | ((with_reducible apply t_skip2 HM); exact rfl; exact rfl; infer_instance; (try simp only [Act.put, List.setIfInBounds_toArray, List.set_cons_zero, List.set_cons_succ])) | ((with_reducible apply t_pure); exact rfl; exact rfl; (focus (intro wv; go_simp; (try (go_ints; (try go_simp))); (first | done | rfl | (rw [if_pos (by omega)]; done)))); (try simp only [Act.put, List.setIfInBounds_toArray, List.set_cons_zero, List.set_cons_succ])))
  refine t_nil ?_
  go_wp2_with (first | go_step3 | ((with_reducible apply sl_want); exact rfl) | ((with_reducible apply sl_load HM); exact rfl; infer_instance; infer_instance; (try simp only [Act.put, List.setIfInBounds_toArray, List.set_cons_zero, List.set_cons_succ])) | ((with_reducible apply sl_store HM); exact rfl; (first | exact Ev.tmp rfl | exact Ev.const); infer_instance; infer_instance; infer_instance; clear HM; (try clear wq); intro wq HM; (try simp only [Act.put, List.setIfInBounds_toArray, List.set_cons_zero, List.set_cons_succ])) | ((with_reducible apply sl_loadR); exact rfl; assumption; (try simp only [Act.put, List.setIfInBounds_toArray, List.set_cons_zero, List.set_cons_succ])) | ((with_reducible apply sl_loadH HM); exact rfl; assumption; infer_instance; (try simp only [Act.put, List.setIfInBounds_toArray, List.set_cons_zero, List.set_cons_succ])) | ((with_reducible refine gate_dst (N := 4) rfl ?_); (with_reducible apply sl_box HM); (first | exact Ev.tmp rfl | exact Ev.const); exact rfl; clear HM; (try clear wq); intro g4 wq HM; (try simp only [Act.put, List.setIfInBounds_toArray, List.set_cons_zero, List.set_cons_succ])) | ((with_reducible refine gate_dst (N := 10) rfl ?_); (with_reducible apply sl_alloc HM); infer_instance; clear HM; (try clear wq); intro g10 wq HM; (try simp only [Act.put, List.setIfInBounds_toArray, List.set_cons_zero, List.set_cons_succ])))
  go_loopw [7, 26] (fun v7 v26 wr => ∃ k : Nat, v26 = .int .i64 k ∧ k ≤ n ∧ Aside0 (SL.Mod B w0 (gapL g gm AQ cQ AR n cR S (lateK an now S.rg k) H g4 (ansC S.s an true af)) wr)) (fun _ v26 _ => n - (intOf v26).toNat)
  case atStart => exact ⟨0, rfl, by omega, ⟨by rw [lateK_zero]; exact HM.sub⟩⟩
  case round =>
    obtain ⟨k, rfl, hk, HM0⟩ := hrel
    clear HM
    by_cases hlt : k < n
    · obtain ⟨x, hx⟩ : ∃ x, S.rg[k]? = some x := ⟨_, List.getElem?_eq_getElem (by have := HN.out; omega)⟩
      have hx2 := lateK_at (an := an) (now := now) hx
      have HX := Aside0.mk hx
      have HX2 := Aside0.mk hx2
      obtain ⟨ad, rfl⟩ : ∃ ad, AR = some ad := (ownsRow_reads (HM0.out.rowOwn (.slice AR n cR))).1.addr (by rw [sents_len, lateK_len, ← HN.out]; omega)
      obtain ⟨gR, cs, rfl, HM, _, hc1, hc2, hcl, hct⟩ := Mod.openRow HM0.out
      clear HM0
      haveI : SegAt cs (k * 4 + 1) 1 [.int .i64 x.n] := seg_take hct (by have := sent_at (s := S.s) hx2 1 (by omega); simpa using this)
      have HCT := Aside0.mk hct
      have HC2 := Aside0.mk hc2
      have HCL := Aside0.mk hcl
      haveI := put_mid cs [.int .i64 now] (k * 4 + 3) (by simp; omega)
      clear hx hx2 hct hcl hc2
      by_cases hf : an < x.n
      · have E : Aside0 (x.late an now = { x with due := now }) := ⟨by unfold Sn.late; rw [if_pos hf]⟩
        have hff : decide (an < x.n) = true := decide_eq_true hf
        clear hf
        go_wp2_with (first | go_step3 | ((with_reducible apply sl_want); exact rfl) | ((with_reducible apply sl_load HM); exact rfl; infer_instance; infer_instance; (try simp only [Act.put, List.setIfInBounds_toArray, List.set_cons_zero, List.set_cons_succ])) | ((with_reducible apply sl_store HM); exact rfl; (first | exact Ev.tmp rfl | exact Ev.const); infer_instance; infer_instance; infer_instance; clear HM; (try clear wq); intro wq HM; (try simp only [Act.put, List.setIfInBounds_toArray, List.set_cons_zero, List.set_cons_succ])) | ((with_reducible apply sl_loadR); exact rfl; assumption; (try simp only [Act.put, List.setIfInBounds_toArray, List.set_cons_zero, List.set_cons_succ])) | ((with_reducible apply sl_loadH HM); exact rfl; assumption; infer_instance; (try simp only [Act.put, List.setIfInBounds_toArray, List.set_cons_zero, List.set_cons_succ])) | ((with_reducible refine gate_dst (N := 4) rfl ?_); (with_reducible apply sl_box HM); (first | exact Ev.tmp rfl | exact Ev.const); exact rfl; clear HM; (try clear wq); intro g4 wq HM; (try simp only [Act.put, List.setIfInBounds_toArray, List.set_cons_zero, List.set_cons_succ])) | ((with_reducible refine gate_dst (N := 10) rfl ?_); (with_reducible apply sl_alloc HM); infer_instance; clear HM; (try clear wq); intro g10 wq HM; (try simp only [Act.put, List.setIfInBounds_toArray, List.set_cons_zero, List.set_cons_succ])))
        refine wp_drawnS HM [] [(0, 1), (1, 1), (2, 1), (3, 0), (4, 1), (5, 1), (6, 1), (7, 1), (8, 0), (9, 1), (10, 0), (11, 1)] (by kernel_rfl) (by kernel_rfl) (by kernel_rfl) (by kernel_rfl) (fun _ _ d _ _ h => by cases d <;> exact h) ?_; clear HM; (try clear wq); intro wq HM
        repeat (first | ((with_reducible apply t_move); exact rfl; exact rfl; (first | exact Ev.tmp rfl | exact Ev.const); (try simp only [Act.put, List.setIfInBounds_toArray, List.set_cons_zero, List.set_cons_succ])) | ((with_reducible apply t_assign); exact rfl; exact rfl; (first | exact Ev.tmp rfl | exact Ev.const); (try simp only [Act.put, List.setIfInBounds_toArray, List.set_cons_zero, List.set_cons_succ])) | ((with_reducible apply t_load HM); exact rfl; exact rfl; exact rfl; infer_instance; infer_instance; infer_instance; (try simp only [Act.put, List.setIfInBounds_toArray, List.set_cons_zero, List.set_cons_succ])) | ((with_reducible apply t_loadH HM); exact rfl; exact rfl; exact rfl; assumption; infer_instance; infer_instance; (try simp only [Act.put, List.setIfInBounds_toArray, List.set_cons_zero, List.set_cons_succ])) | ((with_reducible apply t_skip); exact rfl; exact rfl; (try simp only [Act.put, List.setIfInBounds_toArray, List.set_cons_zero, List.set_cons_succ])) | ((with_reducible apply t_skip0 HM); exact rfl; exact rfl; infer_instance; (try simp only [Act.put, List.setIfInBounds_toArray, List.set_cons_zero, List.set_cons_succ])) | ((with_reducible apply t_skip2 HM); exact rfl; exact rfl; infer_instance; (try simp only [Act.put, List.setIfInBounds_toArray, List.set_cons_zero, List.set_cons_succ])) | ((with_reducible apply t_pure); exact rfl; exact rfl; (focus (intro wv; go_simp; (try (go_ints; (try go_simp))); (first | done | rfl | (rw [if_pos (by omega)]; done)))); (try simp only [Act.put, List.setIfInBounds_toArray, List.set_cons_zero, List.set_cons_succ])))
        refine t_nil ?_
        go_wp2_with (first | go_step3 | ((with_reducible apply sl_want); exact rfl) | ((with_reducible apply sl_load HM); exact rfl; infer_instance; infer_instance; (try simp only [Act.put, List.setIfInBounds_toArray, List.set_cons_zero, List.set_cons_succ])) | ((with_reducible apply sl_store HM); exact rfl; (first | exact Ev.tmp rfl | exact Ev.const); infer_instance; infer_instance; infer_instance; clear HM; (try clear wq); intro wq HM; (try simp only [Act.put, List.setIfInBounds_toArray, List.set_cons_zero, List.set_cons_succ])) | ((with_reducible apply sl_loadR); exact rfl; assumption; (try simp only [Act.put, List.setIfInBounds_toArray, List.set_cons_zero, List.set_cons_succ])) | ((with_reducible apply sl_loadH HM); exact rfl; assumption; infer_instance; (try simp only [Act.put, List.setIfInBounds_toArray, List.set_cons_zero, List.set_cons_succ])) | ((with_reducible refine gate_dst (N := 4) rfl ?_); (with_reducible apply sl_box HM); (first | exact Ev.tmp rfl | exact Ev.const); exact rfl; clear HM; (try clear wq); intro g4 wq HM; (try simp only [Act.put, List.setIfInBounds_toArray, List.set_cons_zero, List.set_cons_succ])) | ((with_reducible refine gate_dst (N := 10) rfl ?_); (with_reducible apply sl_alloc HM); infer_instance; clear HM; (try clear wq); intro g10 wq HM; (try simp only [Act.put, List.setIfInBounds_toArray, List.set_cons_zero, List.set_cons_succ])))
        have HM1 := Mod.closeRow (n := n) (c := cR) (sz := 4) (xs := sents S.s (lateK an now S.rg (k + 1))) HM hc1 HC2.out (by rw [mid_len _ _ _ (by rw [HCL.out]; simp; omega), HCL.out]) (by
          rw [lateK_succ HX.out, E.out, set_due _ _ _ _ _ HX2.out, mid_take _ _ _ _ (by simp; omega) (by rw [HCL.out]; omega), HCT.out]
          rfl)
        exact ⟨⟨k + 1, rfl, hlt, ⟨HM1.sub⟩⟩, by simp only [intOf]; omega⟩
      · have E : Aside0 (x.late an now = x) := ⟨by unfold Sn.late; rw [if_neg hf]⟩
        have hff : decide (an < x.n) = false := decide_eq_false hf
        clear hf
        go_wp2_with (first | go_step3 | ((with_reducible apply sl_want); exact rfl) | ((with_reducible apply sl_load HM); exact rfl; infer_instance; infer_instance; (try simp only [Act.put, List.setIfInBounds_toArray, List.set_cons_zero, List.set_cons_succ])) | ((with_reducible apply sl_store HM); exact rfl; (first | exact Ev.tmp rfl | exact Ev.const); infer_instance; infer_instance; infer_instance; clear HM; (try clear wq); intro wq HM; (try simp only [Act.put, List.setIfInBounds_toArray, List.set_cons_zero, List.set_cons_succ])) | ((with_reducible apply sl_loadR); exact rfl; assumption; (try simp only [Act.put, List.setIfInBounds_toArray, List.set_cons_zero, List.set_cons_succ])) | ((with_reducible apply sl_loadH HM); exact rfl; assumption; infer_instance; (try simp only [Act.put, List.setIfInBounds_toArray, List.set_cons_zero, List.set_cons_succ])) | ((with_reducible refine gate_dst (N := 4) rfl ?_); (with_reducible apply sl_box HM); (first | exact Ev.tmp rfl | exact Ev.const); exact rfl; clear HM; (try clear wq); intro g4 wq HM; (try simp only [Act.put, List.setIfInBounds_toArray, List.set_cons_zero, List.set_cons_succ])) | ((with_reducible refine gate_dst (N := 10) rfl ?_); (with_reducible apply sl_alloc HM); infer_instance; clear HM; (try clear wq); intro g10 wq HM; (try simp only [Act.put, List.setIfInBounds_toArray, List.set_cons_zero, List.set_cons_succ])))
        refine wp_drawnS HM [] [(0, 1), (1, 1), (2, 1), (3, 0), (4, 1), (5, 1), (6, 1), (7, 1), (8, 0), (9, 1), (10, 0), (11, 1)] (by kernel_rfl) (by kernel_rfl) (by kernel_rfl) (by kernel_rfl) (fun _ _ d _ _ h => by cases d <;> exact h) ?_; clear HM; (try clear wq); intro wq HM
        repeat (first | ((with_reducible apply t_move); exact rfl; exact rfl; (first | exact Ev.tmp rfl | exact Ev.const); (try simp only [Act.put, List.setIfInBounds_toArray, List.set_cons_zero, List.set_cons_succ])) | ((with_reducible apply t_assign); exact rfl; exact rfl; (first | exact Ev.tmp rfl | exact Ev.const); (try simp only [Act.put, List.setIfInBounds_toArray, List.set_cons_zero, List.set_cons_succ])) | ((with_reducible apply t_load HM); exact rfl; exact rfl; exact rfl; infer_instance; infer_instance; infer_instance; (try simp only [Act.put, List.setIfInBounds_toArray, List.set_cons_zero, List.set_cons_succ])) | ((with_reducible apply t_loadH HM); exact rfl; exact rfl; exact rfl; assumption; infer_instance; infer_instance; (try simp only [Act.put, List.setIfInBounds_toArray, List.set_cons_zero, List.set_cons_succ])) | ((with_reducible apply t_skip); exact rfl; exact rfl; (try simp only [Act.put, List.setIfInBounds_toArray, List.set_cons_zero, List.set_cons_succ])) | ((with_reducible apply t_skip0 HM); exact rfl; exact rfl; infer_instance; (try simp only [Act.put, List.setIfInBounds_toArray, List.set_cons_zero, List.set_cons_succ])) | ((with_reducible apply t_skip2 HM); exact rfl; exact rfl; infer_instance; (try simp only [Act.put, List.setIfInBounds_toArray, List.set_cons_zero, List.set_cons_succ])) | ((with_reducible apply t_pure); exact rfl; exact rfl; (focus (intro wv; go_simp; (try (go_ints; (try go_simp))); (first | done | rfl | (rw [if_pos (by omega)]; done)))); (try simp only [Act.put, List.setIfInBounds_toArray, List.set_cons_zero, List.set_cons_succ])))
        refine t_nil ?_
        go_wp2_with (first | go_step3 | ((with_reducible apply sl_want); exact rfl) | ((with_reducible apply sl_load HM); exact rfl; infer_instance; infer_instance; (try simp only [Act.put, List.setIfInBounds_toArray, List.set_cons_zero, List.set_cons_succ])) | ((with_reducible apply sl_store HM); exact rfl; (first | exact Ev.tmp rfl | exact Ev.const); infer_instance; infer_instance; infer_instance; clear HM; (try clear wq); intro wq HM; (try simp only [Act.put, List.setIfInBounds_toArray, List.set_cons_zero, List.set_cons_succ])) | ((with_reducible apply sl_loadR); exact rfl; assumption; (try simp only [Act.put, List.setIfInBounds_toArray, List.set_cons_zero, List.set_cons_succ])) | ((with_reducible apply sl_loadH HM); exact rfl; assumption; infer_instance; (try simp only [Act.put, List.setIfInBounds_toArray, List.set_cons_zero, List.set_cons_succ])) | ((with_reducible refine gate_dst (N := 4) rfl ?_); (with_reducible apply sl_box HM); (first | exact Ev.tmp rfl | exact Ev.const); exact rfl; clear HM; (try clear wq); intro g4 wq HM; (try simp only [Act.put, List.setIfInBounds_toArray, List.set_cons_zero, List.set_cons_succ])) | ((with_reducible refine gate_dst (N := 10) rfl ?_); (with_reducible apply sl_alloc HM); infer_instance; clear HM; (try clear wq); intro g10 wq HM; (try simp only [Act.put, List.setIfInBounds_toArray, List.set_cons_zero, List.set_cons_succ])))
        have HM1 := Mod.closeRow (n := n) (c := cR) (sz := 4) (xs := sents S.s (lateK an now S.rg (k + 1))) HM hc1 HC2.out HCL.out (by
          rw [lateK_succ HX.out, E.out, set_same HX2.out, HCT.out])
        exact ⟨⟨k + 1, rfl, hlt, ⟨HM1.sub⟩⟩, by simp only [intOf]; omega⟩
    · have hkn : k = n := by omega
      subst hkn
      have HM := HM0.out
      clear HM0
      go_wp2_with (first | go_step3 | ((with_reducible apply sl_want); exact rfl) | ((with_reducible apply sl_load HM); exact rfl; infer_instance; infer_instance; (try simp only [Act.put, List.setIfInBounds_toArray, List.set_cons_zero, List.set_cons_succ])) | ((with_reducible apply sl_store HM); exact rfl; (first | exact Ev.tmp rfl | exact Ev.const); infer_instance; infer_instance; infer_instance; clear HM; (try clear wq); intro wq HM; (try simp only [Act.put, List.setIfInBounds_toArray, List.set_cons_zero, List.set_cons_succ])) | ((with_reducible apply sl_loadR); exact rfl; assumption; (try simp only [Act.put, List.setIfInBounds_toArray, List.set_cons_zero, List.set_cons_succ])) | ((with_reducible apply sl_loadH HM); exact rfl; assumption; infer_instance; (try simp only [Act.put, List.setIfInBounds_toArray, List.set_cons_zero, List.set_cons_succ])) | ((with_reducible refine gate_dst (N := 4) rfl ?_); (with_reducible apply sl_box HM); (first | exact Ev.tmp rfl | exact Ev.const); exact rfl; clear HM; (try clear wq); intro g4 wq HM; (try simp only [Act.put, List.setIfInBounds_toArray, List.set_cons_zero, List.set_cons_succ])) | ((with_reducible refine gate_dst (N := 10) rfl ?_); (with_reducible apply sl_alloc HM); infer_instance; clear HM; (try clear wq); intro g10 wq HM; (try simp only [Act.put, List.setIfInBounds_toArray, List.set_cons_zero, List.set_cons_succ])))
      have e1 : lateK an now S.rg k = S.rg.map (Sn.late an now) := by rw [HN.out, lateK_all]
      have e2 : S.rg.map Sn.own = (S.rg.map (Sn.late an now)).map Sn.own := by rw [← e1, lateK_own]
      have e3 : k = (S.rg.map (Sn.late an now)).length := by rw [List.length_map, HN.out]
      unfold gapL at HM
      rw [e1, e2, e3] at HM
      exact sl_ret1 rfl (vals_tmp rfl .nil) ⟨rfl, (Mod.closeSnd (gm := gm) (vQ := .slice AQ S.q.length cQ) (vR := .slice AR (S.rg.map (Sn.late an now)).length cR) HM.sub)⟩
end Go.Proofs.Ytghfoooldcbdnaa
