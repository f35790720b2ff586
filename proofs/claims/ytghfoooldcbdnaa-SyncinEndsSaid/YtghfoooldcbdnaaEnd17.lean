/-
  PART 17 OF THE PROOF OF SyncinEnds: laid together from the proof's own texts: Stp8, Told, RefR, Fls.
-/
import Derived.Outline
import Derived.Test.YtghfoooldcbdnaaEnd2
import Derived.Test.YtghfoooldcbdnaaEnd4
import Derived.Test.YtghfoooldcbdnaaEnd6
import Derived.Test.YtghfoooldcbdnaaEnd11
import Derived.Test.YtghfoooldcbdnaaEnd14
import Derived.Test.YtghfoooldcbdnaaEnd15
import Derived.Test.YtghfoooldcbdnaaEnd16
set_option linter.unusedVariables false
set_option linter.unusedSimpArgs false
namespace Go.Proofs.Ytghfoooldcbdnaa
open Go.RowKit Go.Proofs.Ytghfoooldcbdnaa.SL Go.Proofs.YtghfoooldcbdnaaW.PrintWords Go.Proofs.YtghfoooldcbdnaaW.PrintLast
theorem step_calls (g gr gt : Nat) (T : TK) (N k m : Nat) (x : StE) (now : Int) (ho : T.Ok k m) (hk : k ≤ 1000000) (hm : m ≤ 1000000) (hN : N ≤ 80000000) (hx : V.RecQ x.r) (B : Nat) (w0 w : World) (H : List As) (HM : SL.Mod B w0 (tlk g gr gt T N :: H) w) :
    Calls Try.prog 43 #[.pointer (some ⟨gt, 0, none⟩), .agg x.cells.toArray, .int .i64 now] w (StepPost g gr gt T N x now B w0 H) := by
  obtain ⟨kind, xn, xr, taken⟩ := x
  dsimp only at hx
  by_cases k0 : kind = 0
  · subst k0; exact step_add g gr gt T N k m xn xr taken now ho hk hm hN hx B w0 w H HM
  by_cases k1 : kind = 1
  · subst k1; exact step_send g gr gt T N k m xn xr taken now ho hk hm hN hx B w0 w H HM
  by_cases kn : kind < 0
  · exact step_n1 g gr gt T N k m kind xn xr taken now ho hk hm hN hx kn B w0 w H HM
  by_cases kp : 7 < kind
  · exact step_n2 g gr gt T N k m kind xn xr taken now ho hk hm hN hx kp B w0 w H HM
  by_cases k4 : kind ≤ 4
  · by_cases x0 : xn < 0
    · exact step_n3 g gr gt T N k m kind xn xr taken now ho hk hm hN hx (by omega) k4 x0 B w0 w H HM
    · by_cases x1 : (T.bs.length : Int) ≤ xn
      · exact step_n4 g gr gt T N k m kind xn xr taken now ho hk hm hN hx (by omega) k4 (by omega) x1 B w0 w H HM
      · obtain ⟨i, rfl⟩ : ∃ i : Nat, xn = (i : Int) := ⟨xn.toNat, by omega⟩
        have hi : i < T.bs.length := by omega
        have hb : T.bs[i]? = some T.bs[i] := List.getElem?_eq_getElem hi
        by_cases k2 : kind = 2
        · subst k2; exact step_come g gr gt T N k m xr taken now ho hk hm hN hx i _ hi hb B w0 w H HM
        · by_cases k3 : kind = 3
          · subst k3; exact step_lose g gr gt T N k m xr taken now ho hk hm hN hx i _ hi hb B w0 w H HM
          · have k5 : kind = 4 := by omega
            subst k5; exact step_dup g gr gt T N k m xr taken now ho hk hm hN hx i _ hi hb B w0 w H HM
  · by_cases x0 : xn < 0
    · exact step_n5 g gr gt T N k m kind xn xr taken now ho hk hm hN hx (by omega) (by omega) x0 B w0 w H HM
    · by_cases x1 : (T.ans.length : Int) ≤ xn
      · exact step_n6 g gr gt T N k m kind xn xr taken now ho hk hm hN hx (by omega) (by omega) (by omega) x1 B w0 w H HM
      · obtain ⟨i, rfl⟩ : ∃ i : Nat, xn = (i : Int) := ⟨xn.toNat, by omega⟩
        have hi : i < T.ans.length := by omega
        have hb : T.ans[i]? = some T.ans[i] := List.getElem?_eq_getElem hi
        by_cases k2 : kind = 5
        · subst k2; exact step_ans g gr gt T N k m xr taken now ho hk hm hN hx i _ hi hb B w0 w H HM
        · by_cases k3 : kind = 6
          · subst k3; exact step_alose g gr gt T N k m xr taken now ho hk hm hN hx i _ hi hb B w0 w H HM
          · have k5 : kind = 7 := by omega
            subst k5; exact step_adup g gr gt T N k m xr taken now ho hk hm hN hx i _ hi hb B w0 w H HM
end Go.Proofs.Ytghfoooldcbdnaa
set_option linter.unusedVariables false
set_option linter.unusedSimpArgs false
namespace Go.Proofs.Ytghfoooldcbdnaa
open Go.RowKit Go.Proofs.Ytghfoooldcbdnaa.SL Go.Proofs.YtghfoooldcbdnaaW.PrintWords

def rec1 : Rec := ⟨0, ⟨#[49, 50, 51, 52]⟩, ⟨#[53, 54, 55, 56]⟩, 0, 0, 0, 1, 0⟩
set_option maxHeartbeats 2000000 in
set_option maxRecDepth 100000 in
theorem one_calls (s n : Int) (B : Nat) (w0 w : World) (H : List As) (HM : Mod B w0 H w) :
    Calls Try.prog 29 #[.int .i64 s, .int .i64 n] w fun e w' => ∃ A, e = .returned (.agg #[.int .i64 s, .int .i64 n, .slice A 1 1]) ∧ Mod B w0 (row (.slice A 1 1) 53 8 1 (recs [rec1]) :: H) w' := by
  go_enter Try.func29, Try.ntmps29
  go_wp2_with (first | go_step3 | ((with_reducible apply sl_want); exact rfl) | ((with_reducible apply sl_load HM); exact rfl; infer_instance; infer_instance; (try simp only [Act.put, List.setIfInBounds_toArray, List.set_cons_zero, List.set_cons_succ])) | ((with_reducible apply sl_store HM); exact rfl; (first | exact Ev.tmp rfl | exact Ev.const); infer_instance; infer_instance; infer_instance; clear HM; (try clear wq); intro wq HM; (try simp only [Act.put, List.setIfInBounds_toArray, List.set_cons_zero, List.set_cons_succ])) | ((with_reducible apply sl_loadR); exact rfl; assumption; (try simp only [Act.put, List.setIfInBounds_toArray, List.set_cons_zero, List.set_cons_succ])) | ((with_reducible apply sl_loadH HM); exact rfl; assumption; infer_instance; (try simp only [Act.put, List.setIfInBounds_toArray, List.set_cons_zero, List.set_cons_succ])) | ((with_reducible refine gate_dst (N := 4) rfl ?_); (with_reducible apply sl_alloc HM); infer_instance; clear HM; (try clear wq); intro g4 wq HM; (try simp only [Act.put, List.setIfInBounds_toArray, List.set_cons_zero, List.set_cons_succ])) | ((with_reducible refine gate_dst (N := 9) rfl ?_); (with_reducible apply sl_lit HM); (focus (go_simp; (try rfl); done)); clear HM; (try clear wq); intro g9 wq HM; (try simp only [Act.put, List.setIfInBounds_toArray, List.set_cons_zero, List.set_cons_succ])))
  have HM1 : Mod B w0 (row (.slice (some ⟨g9, 0, none⟩) 1 1) 53 8 1 (recs [rec1]) :: _) _ := HM.litRow g9 8 1 rfl (by decide)
  exact sl_ret1 rfl (vals_cell HM1 rfl inferInstance inferInstance rfl .nil) ⟨_, rfl, HM1.sub⟩

set_option maxHeartbeats 2000000 in
set_option maxRecDepth 100000 in
theorem yes_spec (B : Nat) (w0 : World) : FnSpec B w0 59 #[] (fun _ G => G = []) (fun _ => true) where
  run := by intro args w; go_simp
  spec := by
    intro w H G done x hd hG HM
    subst hG
    go_enter Try.func59, Try.ntmps59
    go_wp2_with (first | go_step3 | ((with_reducible apply sl_want); exact rfl) | ((with_reducible apply sl_load HM); exact rfl; infer_instance; infer_instance; (try simp only [Act.put, List.setIfInBounds_toArray, List.set_cons_zero, List.set_cons_succ])) | ((with_reducible apply sl_store HM); exact rfl; (first | exact Ev.tmp rfl | exact Ev.const); infer_instance; infer_instance; infer_instance; clear HM; (try clear wq); intro wq HM; (try simp only [Act.put, List.setIfInBounds_toArray, List.set_cons_zero, List.set_cons_succ])) | ((with_reducible apply sl_loadR); exact rfl; assumption; (try simp only [Act.put, List.setIfInBounds_toArray, List.set_cons_zero, List.set_cons_succ])) | ((with_reducible apply sl_loadH HM); exact rfl; assumption; infer_instance; (try simp only [Act.put, List.setIfInBounds_toArray, List.set_cons_zero, List.set_cons_succ])) | ((with_reducible refine gate_dst (N := 1) rfl ?_); (with_reducible apply sl_box HM); (first | exact Ev.tmp rfl | exact Ev.const); exact rfl; clear HM; (try clear wq); intro g1 wq HM; (try simp only [Act.put, List.setIfInBounds_toArray, List.set_cons_zero, List.set_cons_succ])))
    exact sl_ret1 rfl (vals_tmp rfl .nil) ⟨rfl, [], rfl, HM.sub⟩

abbrev bools (l : List Bool) : List Value := l.map Value.bool
def tells (tk : List Bool) (k : Nat) : Bool := tk.getD k false

theorem rec1_fits : Fits [rec1] := by intro r hr; simp at hr; subst hr; exact ⟨by decide, by decide⟩
theorem RS.new_ok : RS.new.Ok := ⟨rfl, ⟨by decide, by decide⟩, by decide, by decide⟩
theorem alive_one : RS.new.take 1 1 [rec1] (bitsUp (fun _ => true) 1) = ⟨⟨1, 1, List.replicate 16 0, 1⟩, 1, 1, false, 0, true, true⟩ := by kernel_rfl
theorem alive_three : RS.take ⟨1, 1, List.replicate 16 0, 1⟩ 1 3 [rec1] (bitsUp (fun _ => true) 1) = ⟨⟨1, 1, List.replicate 16 0, 1⟩, 1, 1, true, 0, true, false⟩ := by kernel_rfl
set_option maxHeartbeats 2000000 in
set_option maxRecDepth 100000 in
theorem alive_calls (w : World) : Calls Try.prog 21 #[] w fun e w' => e = .returned (.bool true) ∧ Mod w.heap.size w [] w' := by
  have HM := Mod.start w
  go_enter Try.func21, Try.ntmps21
  go_wp2_with (first | (go_at_call 20; refine (New_calls _).mono ?_; rintro e wq ⟨g, rfl, hj⟩; have HM1 := HM.join hj; clear HM hj; have HM := HM1; clear HM1; simp only [List.cons_append, List.nil_append] at HM) | (go_at_call 29; refine (one_calls _ _ _ _ _ _ HM).mono ?_; rintro e wq ⟨A, rfl, HM1⟩; clear HM; have HM := HM1; clear HM1) | (go_at_call 28; have HM1 : Mod w.heap.size w [cells g RS.new.cells 127, row (.slice A 1 1) 53 8 1 (recs [rec1])] _ := HM.sub; have HC2 := Take_calls w.heap.size w 59 _ _ _ (yes_spec _ _) g RS.new RS.new_ok 1 1 [rec1] A 1 rec1_fits (by decide) _ [row (.slice A 1 1) 53 8 1 (recs [rec1])] [] rfl (fun w h => (ownsRow_reads (h.rowOwn (.slice A 1 1))).1) HM1; rw [show [rec1].length = 1 from rfl, alive_one] at HC2; refine HC2.mono ?_; clear HC2 HM1; rintro e wq ⟨rfl, G2, rfl, HM1⟩; clear HM; have HM := HM1; clear HM1; simp only [List.cons_append, List.nil_append] at HM; dsimp only [Out.ans]) | (go_at_call 28; have HM1 : Mod w.heap.size w [cells g (RS.cells ⟨1, 1, List.replicate 16 0, 1⟩) 127, row (.slice A 1 1) 53 8 1 (recs [rec1]), cells g3 [.int .i64 1, .int .i64 1, .bool false, .int .u64 0] 42] _ := HM.sub; have HC2 := Take_calls w.heap.size w 59 _ _ _ (yes_spec _ _) g ⟨1, 1, List.replicate 16 0, 1⟩ ⟨rfl, ⟨by decide, by decide⟩, by decide, by decide⟩ 1 3 [rec1] A 1 rec1_fits (by decide) _ [row (.slice A 1 1) 53 8 1 (recs [rec1]), cells g3 [.int .i64 1, .int .i64 1, .bool false, .int .u64 0] 42] [] rfl (fun w h => (ownsRow_reads (h.rowOwn (.slice A 1 1))).1) HM1; rw [show [rec1].length = 1 from rfl, alive_three] at HC2; refine HC2.mono ?_; clear HC2 HM1; rintro e wq ⟨rfl, G2, rfl, HM1⟩; clear HM; have HM := HM1; clear HM1; simp only [List.cons_append, List.nil_append] at HM; dsimp only [Out.ans]) | (go_at_call 25; refine (Last_calls g ⟨1, 1, List.replicate 16 0, 1⟩ _ _ _ _ (HM.pickBlk g)).mono ?_; rintro e wq ⟨rfl, HM1⟩; clear HM; have HM := HM1; clear HM1; dsimp only) | (go_at_call 26; refine (Done_calls g ⟨1, 1, List.replicate 16 0, 1⟩ rfl _ _ _ _ (HM.pickBlk g)).mono ?_; rintro e wq ⟨rfl, HM1⟩; clear HM; have HM := HM1; clear HM1; dsimp only) | go_step3 | ((with_reducible apply sl_want); exact rfl) | ((with_reducible apply sl_load HM); exact rfl; infer_instance; infer_instance; (try simp only [Act.put, List.setIfInBounds_toArray, List.set_cons_zero, List.set_cons_succ])) | ((with_reducible apply sl_store HM); exact rfl; (first | exact Ev.tmp rfl | exact Ev.const); infer_instance; infer_instance; infer_instance; clear HM; (try clear wq); intro wq HM; (try simp only [Act.put, List.setIfInBounds_toArray, List.set_cons_zero, List.set_cons_succ])) | ((with_reducible apply sl_loadR); exact rfl; assumption; (try simp only [Act.put, List.setIfInBounds_toArray, List.set_cons_zero, List.set_cons_succ])) | ((with_reducible apply sl_loadH HM); exact rfl; assumption; infer_instance; (try simp only [Act.put, List.setIfInBounds_toArray, List.set_cons_zero, List.set_cons_succ])) | ((with_reducible refine gate_dst (N := 3) rfl ?_); (with_reducible apply sl_alloc HM); infer_instance; clear HM; (try clear wq); intro g3 wq HM; (try simp only [Act.put, List.setIfInBounds_toArray, List.set_cons_zero, List.set_cons_succ])) | ((with_reducible refine gate_dst (N := 5) rfl ?_); (with_reducible apply sl_alloc HM); infer_instance; clear HM; (try clear wq); intro g5 wq HM; (try simp only [Act.put, List.setIfInBounds_toArray, List.set_cons_zero, List.set_cons_succ])))

  exact sl_ret1 rfl (vals_tmp rfl .nil) ⟨rfl, HM.sub⟩
end Go.Proofs.Ytghfoooldcbdnaa
set_option linter.unusedVariables false
set_option linter.unusedSimpArgs false
namespace Go.Proofs.Ytghfoooldcbdnaa
open Go.RowKit Go.Proofs.Ytghfoooldcbdnaa.SL Go.Proofs.YtghfoooldcbdnaaW.PrintWords

set_option maxHeartbeats 400000 in
theorem right3_calls (s : ByteArray) (hs : s.size ≤ maxLen) (w : World) : Calls Try.prog 82 #[.string s] w fun e w' => e = .returned (.bool (okA s)) ∧ w = w' := by
  unfold maxLen at hs
  have E : Aside0 (okA s = ((s.size : Int) == 4 || (s.size : Int) == 16)) := ⟨by unfold okA; rw [Bool.eq_iff_iff]; simp; omega⟩
  go_enter Try.func82, Try.ntmps82
  go_wp2
  all_goals (refine sl_ret1 rfl (vals_tmp rfl .nil) ⟨by first | (rw [E.out]; done) | (rw [E.out]; simp [*]), rfl⟩)

set_option maxHeartbeats 16000000 in
set_option maxRecDepth 100000 in
theorem right14_calls (x : Rec) (h1 : x.fr.size ≤ maxLen) (h2 : x.tt.size ≤ maxLen) (w : World) : Calls Try.prog 44 #[.agg x.cells.toArray] w fun e w' => e = .returned (.bool x.ok) ∧ Mod w.heap.size w [] w' := by
  have HM := Mod.start w
  have HF := Aside0.mk h1
  have HT := Aside0.mk h2
  unfold maxLen at h1 h2
  by_cases c0 : x.pr < 0
  · skip
    have E : Aside0 (x.ok = false) := ⟨by rw [Bool.eq_false_iff]; intro h; simp only [Rec.ok, inB, Bool.and_eq_true, decide_eq_true_eq, beq_iff_eq] at h; omega⟩
    have b0 : decide (x.pr < 0) = true := by simpa using c0
    clear c0
    go_enter Try.func44, Try.ntmps44
    go_wp2_with (first | (go_at_call 82; (with_reducible refine (right3_calls x.fr HF.out _).mono ?_); rintro e w1 ⟨rfl, rfl⟩) | (go_at_call 82; (with_reducible refine (right3_calls x.tt HT.out _).mono ?_); rintro e w1 ⟨rfl, rfl⟩) | go_step3 | ((with_reducible apply sl_want); exact rfl) | ((with_reducible apply sl_load HM); exact rfl; infer_instance; infer_instance; (try simp only [Act.put, List.setIfInBounds_toArray, List.set_cons_zero, List.set_cons_succ])) | ((with_reducible apply sl_store HM); exact rfl; (first | exact Ev.tmp rfl | exact Ev.const); infer_instance; infer_instance; infer_instance; clear HM; (try clear wq); intro wq HM; (try simp only [Act.put, List.setIfInBounds_toArray, List.set_cons_zero, List.set_cons_succ])) | ((with_reducible apply sl_loadR); exact rfl; assumption; (try simp only [Act.put, List.setIfInBounds_toArray, List.set_cons_zero, List.set_cons_succ])) | ((with_reducible apply sl_loadH HM); exact rfl; assumption; infer_instance; (try simp only [Act.put, List.setIfInBounds_toArray, List.set_cons_zero, List.set_cons_succ])) | ((with_reducible refine gate_dst (N := 1) rfl ?_); (with_reducible apply sl_box HM); (first | exact Ev.tmp rfl | exact Ev.const); exact rfl; clear HM; (try clear wq); intro g1 wq HM; (try simp only [Act.put, List.setIfInBounds_toArray, List.set_cons_zero, List.set_cons_succ])) | ((with_reducible refine gate_dst (N := 3) rfl ?_); (with_reducible apply sl_alloc HM); infer_instance; clear HM; (try clear wq); intro g3 wq HM; (try simp only [Act.put, List.setIfInBounds_toArray, List.set_cons_zero, List.set_cons_succ])))
    exact sl_ret1 rfl (vals_tmp rfl .nil) ⟨by rw [E.out], HM.sub⟩
  · skip
    by_cases c1 : 255 < x.pr
    · skip
      have E : Aside0 (x.ok = false) := ⟨by rw [Bool.eq_false_iff]; intro h; simp only [Rec.ok, inB, Bool.and_eq_true, decide_eq_true_eq, beq_iff_eq] at h; omega⟩
      have b0 : decide (x.pr < 0) = false := by simpa using c0
      have b1 : decide (255 < x.pr) = true := by simpa using c1
      clear c0 c1
      go_enter Try.func44, Try.ntmps44
      go_wp2_with (first | (go_at_call 82; (with_reducible refine (right3_calls x.fr HF.out _).mono ?_); rintro e w1 ⟨rfl, rfl⟩) | (go_at_call 82; (with_reducible refine (right3_calls x.tt HT.out _).mono ?_); rintro e w1 ⟨rfl, rfl⟩) | go_step3 | ((with_reducible apply sl_want); exact rfl) | ((with_reducible apply sl_load HM); exact rfl; infer_instance; infer_instance; (try simp only [Act.put, List.setIfInBounds_toArray, List.set_cons_zero, List.set_cons_succ])) | ((with_reducible apply sl_store HM); exact rfl; (first | exact Ev.tmp rfl | exact Ev.const); infer_instance; infer_instance; infer_instance; clear HM; (try clear wq); intro wq HM; (try simp only [Act.put, List.setIfInBounds_toArray, List.set_cons_zero, List.set_cons_succ])) | ((with_reducible apply sl_loadR); exact rfl; assumption; (try simp only [Act.put, List.setIfInBounds_toArray, List.set_cons_zero, List.set_cons_succ])) | ((with_reducible apply sl_loadH HM); exact rfl; assumption; infer_instance; (try simp only [Act.put, List.setIfInBounds_toArray, List.set_cons_zero, List.set_cons_succ])) | ((with_reducible refine gate_dst (N := 1) rfl ?_); (with_reducible apply sl_box HM); (first | exact Ev.tmp rfl | exact Ev.const); exact rfl; clear HM; (try clear wq); intro g1 wq HM; (try simp only [Act.put, List.setIfInBounds_toArray, List.set_cons_zero, List.set_cons_succ])) | ((with_reducible refine gate_dst (N := 3) rfl ?_); (with_reducible apply sl_alloc HM); infer_instance; clear HM; (try clear wq); intro g3 wq HM; (try simp only [Act.put, List.setIfInBounds_toArray, List.set_cons_zero, List.set_cons_succ])))
      exact sl_ret1 rfl (vals_tmp rfl .nil) ⟨by rw [E.out], HM.sub⟩
    · skip
      by_cases c2 : okA x.fr = true
      · skip
        by_cases c3 : okA x.tt = true
        · skip
          by_cases c4 : x.fr.size ≠ x.tt.size
          · skip
            have E : Aside0 (x.ok = false) := ⟨by rw [Bool.eq_false_iff]; intro h; simp only [Rec.ok, inB, Bool.and_eq_true, decide_eq_true_eq, beq_iff_eq] at h; omega⟩
            have b0 : decide (x.pr < 0) = false := by simpa using c0
            have b1 : decide (255 < x.pr) = false := by simpa using c1
            have b2 : okA x.fr = true := by simpa using c2
            have b3 : okA x.tt = true := by simpa using c3
            have b4 : ((x.fr.size : Int) != (x.tt.size : Int)) = true := by simp; omega
            have d4 : ((x.fr.size : Int) == (x.tt.size : Int)) = false := by simp; omega
            clear c0 c1 c2 c3 c4
            go_enter Try.func44, Try.ntmps44
            go_wp2_with (first | (go_at_call 82; (with_reducible refine (right3_calls x.fr HF.out _).mono ?_); rintro e w1 ⟨rfl, rfl⟩) | (go_at_call 82; (with_reducible refine (right3_calls x.tt HT.out _).mono ?_); rintro e w1 ⟨rfl, rfl⟩) | go_step3 | ((with_reducible apply sl_want); exact rfl) | ((with_reducible apply sl_load HM); exact rfl; infer_instance; infer_instance; (try simp only [Act.put, List.setIfInBounds_toArray, List.set_cons_zero, List.set_cons_succ])) | ((with_reducible apply sl_store HM); exact rfl; (first | exact Ev.tmp rfl | exact Ev.const); infer_instance; infer_instance; infer_instance; clear HM; (try clear wq); intro wq HM; (try simp only [Act.put, List.setIfInBounds_toArray, List.set_cons_zero, List.set_cons_succ])) | ((with_reducible apply sl_loadR); exact rfl; assumption; (try simp only [Act.put, List.setIfInBounds_toArray, List.set_cons_zero, List.set_cons_succ])) | ((with_reducible apply sl_loadH HM); exact rfl; assumption; infer_instance; (try simp only [Act.put, List.setIfInBounds_toArray, List.set_cons_zero, List.set_cons_succ])) | ((with_reducible refine gate_dst (N := 1) rfl ?_); (with_reducible apply sl_box HM); (first | exact Ev.tmp rfl | exact Ev.const); exact rfl; clear HM; (try clear wq); intro g1 wq HM; (try simp only [Act.put, List.setIfInBounds_toArray, List.set_cons_zero, List.set_cons_succ])) | ((with_reducible refine gate_dst (N := 3) rfl ?_); (with_reducible apply sl_alloc HM); infer_instance; clear HM; (try clear wq); intro g3 wq HM; (try simp only [Act.put, List.setIfInBounds_toArray, List.set_cons_zero, List.set_cons_succ])))
            exact sl_ret1 rfl (vals_tmp rfl .nil) ⟨by rw [E.out], HM.sub⟩
          · skip
            by_cases c5 : x.po < 0
            · skip
              have E : Aside0 (x.ok = false) := ⟨by rw [Bool.eq_false_iff]; intro h; simp only [Rec.ok, inB, Bool.and_eq_true, decide_eq_true_eq, beq_iff_eq] at h; omega⟩
              have b0 : decide (x.pr < 0) = false := by simpa using c0
              have b1 : decide (255 < x.pr) = false := by simpa using c1
              have b2 : okA x.fr = true := by simpa using c2
              have b3 : okA x.tt = true := by simpa using c3
              have b4 : ((x.fr.size : Int) != (x.tt.size : Int)) = false := by simp; omega
              have d4 : ((x.fr.size : Int) == (x.tt.size : Int)) = true := by simp; omega
              have b5 : decide (x.po < 0) = true := by simpa using c5
              clear c0 c1 c2 c3 c4 c5
              go_enter Try.func44, Try.ntmps44
              go_wp2_with (first | (go_at_call 82; (with_reducible refine (right3_calls x.fr HF.out _).mono ?_); rintro e w1 ⟨rfl, rfl⟩) | (go_at_call 82; (with_reducible refine (right3_calls x.tt HT.out _).mono ?_); rintro e w1 ⟨rfl, rfl⟩) | go_step3 | ((with_reducible apply sl_want); exact rfl) | ((with_reducible apply sl_load HM); exact rfl; infer_instance; infer_instance; (try simp only [Act.put, List.setIfInBounds_toArray, List.set_cons_zero, List.set_cons_succ])) | ((with_reducible apply sl_store HM); exact rfl; (first | exact Ev.tmp rfl | exact Ev.const); infer_instance; infer_instance; infer_instance; clear HM; (try clear wq); intro wq HM; (try simp only [Act.put, List.setIfInBounds_toArray, List.set_cons_zero, List.set_cons_succ])) | ((with_reducible apply sl_loadR); exact rfl; assumption; (try simp only [Act.put, List.setIfInBounds_toArray, List.set_cons_zero, List.set_cons_succ])) | ((with_reducible apply sl_loadH HM); exact rfl; assumption; infer_instance; (try simp only [Act.put, List.setIfInBounds_toArray, List.set_cons_zero, List.set_cons_succ])) | ((with_reducible refine gate_dst (N := 1) rfl ?_); (with_reducible apply sl_box HM); (first | exact Ev.tmp rfl | exact Ev.const); exact rfl; clear HM; (try clear wq); intro g1 wq HM; (try simp only [Act.put, List.setIfInBounds_toArray, List.set_cons_zero, List.set_cons_succ])) | ((with_reducible refine gate_dst (N := 3) rfl ?_); (with_reducible apply sl_alloc HM); infer_instance; clear HM; (try clear wq); intro g3 wq HM; (try simp only [Act.put, List.setIfInBounds_toArray, List.set_cons_zero, List.set_cons_succ])))
              exact sl_ret1 rfl (vals_tmp rfl .nil) ⟨by rw [E.out], HM.sub⟩
            · skip
              by_cases c6 : 65535 < x.po
              · skip
                have E : Aside0 (x.ok = false) := ⟨by rw [Bool.eq_false_iff]; intro h; simp only [Rec.ok, inB, Bool.and_eq_true, decide_eq_true_eq, beq_iff_eq] at h; omega⟩
                have b0 : decide (x.pr < 0) = false := by simpa using c0
                have b1 : decide (255 < x.pr) = false := by simpa using c1
                have b2 : okA x.fr = true := by simpa using c2
                have b3 : okA x.tt = true := by simpa using c3
                have b4 : ((x.fr.size : Int) != (x.tt.size : Int)) = false := by simp; omega
                have d4 : ((x.fr.size : Int) == (x.tt.size : Int)) = true := by simp; omega
                have b5 : decide (x.po < 0) = false := by simpa using c5
                have b6 : decide (65535 < x.po) = true := by simpa using c6
                clear c0 c1 c2 c3 c4 c5 c6
                go_enter Try.func44, Try.ntmps44
                go_wp2_with (first | (go_at_call 82; (with_reducible refine (right3_calls x.fr HF.out _).mono ?_); rintro e w1 ⟨rfl, rfl⟩) | (go_at_call 82; (with_reducible refine (right3_calls x.tt HT.out _).mono ?_); rintro e w1 ⟨rfl, rfl⟩) | go_step3 | ((with_reducible apply sl_want); exact rfl) | ((with_reducible apply sl_load HM); exact rfl; infer_instance; infer_instance; (try simp only [Act.put, List.setIfInBounds_toArray, List.set_cons_zero, List.set_cons_succ])) | ((with_reducible apply sl_store HM); exact rfl; (first | exact Ev.tmp rfl | exact Ev.const); infer_instance; infer_instance; infer_instance; clear HM; (try clear wq); intro wq HM; (try simp only [Act.put, List.setIfInBounds_toArray, List.set_cons_zero, List.set_cons_succ])) | ((with_reducible apply sl_loadR); exact rfl; assumption; (try simp only [Act.put, List.setIfInBounds_toArray, List.set_cons_zero, List.set_cons_succ])) | ((with_reducible apply sl_loadH HM); exact rfl; assumption; infer_instance; (try simp only [Act.put, List.setIfInBounds_toArray, List.set_cons_zero, List.set_cons_succ])) | ((with_reducible refine gate_dst (N := 1) rfl ?_); (with_reducible apply sl_box HM); (first | exact Ev.tmp rfl | exact Ev.const); exact rfl; clear HM; (try clear wq); intro g1 wq HM; (try simp only [Act.put, List.setIfInBounds_toArray, List.set_cons_zero, List.set_cons_succ])) | ((with_reducible refine gate_dst (N := 3) rfl ?_); (with_reducible apply sl_alloc HM); infer_instance; clear HM; (try clear wq); intro g3 wq HM; (try simp only [Act.put, List.setIfInBounds_toArray, List.set_cons_zero, List.set_cons_succ])))
                exact sl_ret1 rfl (vals_tmp rfl .nil) ⟨by rw [E.out], HM.sub⟩
              · skip
                by_cases c7 : x.de < 0
                · skip
                  have E : Aside0 (x.ok = false) := ⟨by rw [Bool.eq_false_iff]; intro h; simp only [Rec.ok, inB, Bool.and_eq_true, decide_eq_true_eq, beq_iff_eq] at h; omega⟩
                  have b0 : decide (x.pr < 0) = false := by simpa using c0
                  have b1 : decide (255 < x.pr) = false := by simpa using c1
                  have b2 : okA x.fr = true := by simpa using c2
                  have b3 : okA x.tt = true := by simpa using c3
                  have b4 : ((x.fr.size : Int) != (x.tt.size : Int)) = false := by simp; omega
                  have d4 : ((x.fr.size : Int) == (x.tt.size : Int)) = true := by simp; omega
                  have b5 : decide (x.po < 0) = false := by simpa using c5
                  have b6 : decide (65535 < x.po) = false := by simpa using c6
                  have b7 : decide (x.de < 0) = true := by simpa using c7
                  clear c0 c1 c2 c3 c4 c5 c6 c7
                  go_enter Try.func44, Try.ntmps44
                  go_wp2_with (first | (go_at_call 82; (with_reducible refine (right3_calls x.fr HF.out _).mono ?_); rintro e w1 ⟨rfl, rfl⟩) | (go_at_call 82; (with_reducible refine (right3_calls x.tt HT.out _).mono ?_); rintro e w1 ⟨rfl, rfl⟩) | go_step3 | ((with_reducible apply sl_want); exact rfl) | ((with_reducible apply sl_load HM); exact rfl; infer_instance; infer_instance; (try simp only [Act.put, List.setIfInBounds_toArray, List.set_cons_zero, List.set_cons_succ])) | ((with_reducible apply sl_store HM); exact rfl; (first | exact Ev.tmp rfl | exact Ev.const); infer_instance; infer_instance; infer_instance; clear HM; (try clear wq); intro wq HM; (try simp only [Act.put, List.setIfInBounds_toArray, List.set_cons_zero, List.set_cons_succ])) | ((with_reducible apply sl_loadR); exact rfl; assumption; (try simp only [Act.put, List.setIfInBounds_toArray, List.set_cons_zero, List.set_cons_succ])) | ((with_reducible apply sl_loadH HM); exact rfl; assumption; infer_instance; (try simp only [Act.put, List.setIfInBounds_toArray, List.set_cons_zero, List.set_cons_succ])) | ((with_reducible refine gate_dst (N := 1) rfl ?_); (with_reducible apply sl_box HM); (first | exact Ev.tmp rfl | exact Ev.const); exact rfl; clear HM; (try clear wq); intro g1 wq HM; (try simp only [Act.put, List.setIfInBounds_toArray, List.set_cons_zero, List.set_cons_succ])) | ((with_reducible refine gate_dst (N := 3) rfl ?_); (with_reducible apply sl_alloc HM); infer_instance; clear HM; (try clear wq); intro g3 wq HM; (try simp only [Act.put, List.setIfInBounds_toArray, List.set_cons_zero, List.set_cons_succ])))
                  exact sl_ret1 rfl (vals_tmp rfl .nil) ⟨by rw [E.out], HM.sub⟩
                · skip
                  by_cases c8 : 65535 < x.de
                  · skip
                    have E : Aside0 (x.ok = false) := ⟨by rw [Bool.eq_false_iff]; intro h; simp only [Rec.ok, inB, Bool.and_eq_true, decide_eq_true_eq, beq_iff_eq] at h; omega⟩
                    have b0 : decide (x.pr < 0) = false := by simpa using c0
                    have b1 : decide (255 < x.pr) = false := by simpa using c1
                    have b2 : okA x.fr = true := by simpa using c2
                    have b3 : okA x.tt = true := by simpa using c3
                    have b4 : ((x.fr.size : Int) != (x.tt.size : Int)) = false := by simp; omega
                    have d4 : ((x.fr.size : Int) == (x.tt.size : Int)) = true := by simp; omega
                    have b5 : decide (x.po < 0) = false := by simpa using c5
                    have b6 : decide (65535 < x.po) = false := by simpa using c6
                    have b7 : decide (x.de < 0) = false := by simpa using c7
                    have b8 : decide (65535 < x.de) = true := by simpa using c8
                    clear c0 c1 c2 c3 c4 c5 c6 c7 c8
                    go_enter Try.func44, Try.ntmps44
                    go_wp2_with (first | (go_at_call 82; (with_reducible refine (right3_calls x.fr HF.out _).mono ?_); rintro e w1 ⟨rfl, rfl⟩) | (go_at_call 82; (with_reducible refine (right3_calls x.tt HT.out _).mono ?_); rintro e w1 ⟨rfl, rfl⟩) | go_step3 | ((with_reducible apply sl_want); exact rfl) | ((with_reducible apply sl_load HM); exact rfl; infer_instance; infer_instance; (try simp only [Act.put, List.setIfInBounds_toArray, List.set_cons_zero, List.set_cons_succ])) | ((with_reducible apply sl_store HM); exact rfl; (first | exact Ev.tmp rfl | exact Ev.const); infer_instance; infer_instance; infer_instance; clear HM; (try clear wq); intro wq HM; (try simp only [Act.put, List.setIfInBounds_toArray, List.set_cons_zero, List.set_cons_succ])) | ((with_reducible apply sl_loadR); exact rfl; assumption; (try simp only [Act.put, List.setIfInBounds_toArray, List.set_cons_zero, List.set_cons_succ])) | ((with_reducible apply sl_loadH HM); exact rfl; assumption; infer_instance; (try simp only [Act.put, List.setIfInBounds_toArray, List.set_cons_zero, List.set_cons_succ])) | ((with_reducible refine gate_dst (N := 1) rfl ?_); (with_reducible apply sl_box HM); (first | exact Ev.tmp rfl | exact Ev.const); exact rfl; clear HM; (try clear wq); intro g1 wq HM; (try simp only [Act.put, List.setIfInBounds_toArray, List.set_cons_zero, List.set_cons_succ])) | ((with_reducible refine gate_dst (N := 3) rfl ?_); (with_reducible apply sl_alloc HM); infer_instance; clear HM; (try clear wq); intro g3 wq HM; (try simp only [Act.put, List.setIfInBounds_toArray, List.set_cons_zero, List.set_cons_succ])))
                    exact sl_ret1 rfl (vals_tmp rfl .nil) ⟨by rw [E.out], HM.sub⟩
                  · skip
                    by_cases c9 : 0 ≤ x.ba
                    · skip
                      by_cases c10 : x.ba ≤ 15
                      · skip
                        by_cases c11 : 1 ≤ x.st
                        · skip
                          by_cases c12 : x.st ≤ 4
                          · skip
                            by_cases c13 : 0 ≤ x.le
                            · skip
                              by_cases c14 : x.le ≤ 65535
                              · skip
                                have E : Aside0 (x.ok = true) := ⟨by simp only [Rec.ok, inB, Bool.and_eq_true, decide_eq_true_eq, beq_iff_eq]; exact ⟨⟨by omega, by omega⟩, c2, by omega, ⟨by omega, by omega⟩, ⟨by omega, by omega⟩, ⟨by omega, by omega⟩, ⟨by omega, by omega⟩, by omega, by omega⟩⟩
                                have b0 : decide (x.pr < 0) = false := by simpa using c0
                                have b1 : decide (255 < x.pr) = false := by simpa using c1
                                have b2 : okA x.fr = true := by simpa using c2
                                have b3 : okA x.tt = true := by simpa using c3
                                have b4 : ((x.fr.size : Int) != (x.tt.size : Int)) = false := by simp; omega
                                have d4 : ((x.fr.size : Int) == (x.tt.size : Int)) = true := by simp; omega
                                have b5 : decide (x.po < 0) = false := by simpa using c5
                                have b6 : decide (65535 < x.po) = false := by simpa using c6
                                have b7 : decide (x.de < 0) = false := by simpa using c7
                                have b8 : decide (65535 < x.de) = false := by simpa using c8
                                have b9 : decide (0 ≤ x.ba) = true := by simpa using c9
                                have b10 : decide (x.ba ≤ 15) = true := by simpa using c10
                                have b11 : decide (1 ≤ x.st) = true := by simpa using c11
                                have b12 : decide (x.st ≤ 4) = true := by simpa using c12
                                have b13 : decide (0 ≤ x.le) = true := by simpa using c13
                                have b14 : decide (x.le ≤ 65535) = true := by simpa using c14
                                clear c0 c1 c2 c3 c4 c5 c6 c7 c8 c9 c10 c11 c12 c13 c14
                                go_enter Try.func44, Try.ntmps44
                                go_wp2_with (first | (go_at_call 82; (with_reducible refine (right3_calls x.fr HF.out _).mono ?_); rintro e w1 ⟨rfl, rfl⟩) | (go_at_call 82; (with_reducible refine (right3_calls x.tt HT.out _).mono ?_); rintro e w1 ⟨rfl, rfl⟩) | go_step3 | ((with_reducible apply sl_want); exact rfl) | ((with_reducible apply sl_load HM); exact rfl; infer_instance; infer_instance; (try simp only [Act.put, List.setIfInBounds_toArray, List.set_cons_zero, List.set_cons_succ])) | ((with_reducible apply sl_store HM); exact rfl; (first | exact Ev.tmp rfl | exact Ev.const); infer_instance; infer_instance; infer_instance; clear HM; (try clear wq); intro wq HM; (try simp only [Act.put, List.setIfInBounds_toArray, List.set_cons_zero, List.set_cons_succ])) | ((with_reducible apply sl_loadR); exact rfl; assumption; (try simp only [Act.put, List.setIfInBounds_toArray, List.set_cons_zero, List.set_cons_succ])) | ((with_reducible apply sl_loadH HM); exact rfl; assumption; infer_instance; (try simp only [Act.put, List.setIfInBounds_toArray, List.set_cons_zero, List.set_cons_succ])) | ((with_reducible refine gate_dst (N := 1) rfl ?_); (with_reducible apply sl_box HM); (first | exact Ev.tmp rfl | exact Ev.const); exact rfl; clear HM; (try clear wq); intro g1 wq HM; (try simp only [Act.put, List.setIfInBounds_toArray, List.set_cons_zero, List.set_cons_succ])) | ((with_reducible refine gate_dst (N := 3) rfl ?_); (with_reducible apply sl_alloc HM); infer_instance; clear HM; (try clear wq); intro g3 wq HM; (try simp only [Act.put, List.setIfInBounds_toArray, List.set_cons_zero, List.set_cons_succ])))
                                exact sl_ret1 rfl (vals_tmp rfl .nil) ⟨by rw [E.out], HM.sub⟩
                              · skip
                                have E : Aside0 (x.ok = false) := ⟨by rw [Bool.eq_false_iff]; intro h; simp only [Rec.ok, inB, Bool.and_eq_true, decide_eq_true_eq, beq_iff_eq] at h; omega⟩
                                have b0 : decide (x.pr < 0) = false := by simpa using c0
                                have b1 : decide (255 < x.pr) = false := by simpa using c1
                                have b2 : okA x.fr = true := by simpa using c2
                                have b3 : okA x.tt = true := by simpa using c3
                                have b4 : ((x.fr.size : Int) != (x.tt.size : Int)) = false := by simp; omega
                                have d4 : ((x.fr.size : Int) == (x.tt.size : Int)) = true := by simp; omega
                                have b5 : decide (x.po < 0) = false := by simpa using c5
                                have b6 : decide (65535 < x.po) = false := by simpa using c6
                                have b7 : decide (x.de < 0) = false := by simpa using c7
                                have b8 : decide (65535 < x.de) = false := by simpa using c8
                                have b9 : decide (0 ≤ x.ba) = true := by simpa using c9
                                have b10 : decide (x.ba ≤ 15) = true := by simpa using c10
                                have b11 : decide (1 ≤ x.st) = true := by simpa using c11
                                have b12 : decide (x.st ≤ 4) = true := by simpa using c12
                                have b13 : decide (0 ≤ x.le) = true := by simpa using c13
                                have b14 : decide (x.le ≤ 65535) = false := by simpa using c14
                                clear c0 c1 c2 c3 c4 c5 c6 c7 c8 c9 c10 c11 c12 c13 c14
                                go_enter Try.func44, Try.ntmps44
                                go_wp2_with (first | (go_at_call 82; (with_reducible refine (right3_calls x.fr HF.out _).mono ?_); rintro e w1 ⟨rfl, rfl⟩) | (go_at_call 82; (with_reducible refine (right3_calls x.tt HT.out _).mono ?_); rintro e w1 ⟨rfl, rfl⟩) | go_step3 | ((with_reducible apply sl_want); exact rfl) | ((with_reducible apply sl_load HM); exact rfl; infer_instance; infer_instance; (try simp only [Act.put, List.setIfInBounds_toArray, List.set_cons_zero, List.set_cons_succ])) | ((with_reducible apply sl_store HM); exact rfl; (first | exact Ev.tmp rfl | exact Ev.const); infer_instance; infer_instance; infer_instance; clear HM; (try clear wq); intro wq HM; (try simp only [Act.put, List.setIfInBounds_toArray, List.set_cons_zero, List.set_cons_succ])) | ((with_reducible apply sl_loadR); exact rfl; assumption; (try simp only [Act.put, List.setIfInBounds_toArray, List.set_cons_zero, List.set_cons_succ])) | ((with_reducible apply sl_loadH HM); exact rfl; assumption; infer_instance; (try simp only [Act.put, List.setIfInBounds_toArray, List.set_cons_zero, List.set_cons_succ])) | ((with_reducible refine gate_dst (N := 1) rfl ?_); (with_reducible apply sl_box HM); (first | exact Ev.tmp rfl | exact Ev.const); exact rfl; clear HM; (try clear wq); intro g1 wq HM; (try simp only [Act.put, List.setIfInBounds_toArray, List.set_cons_zero, List.set_cons_succ])) | ((with_reducible refine gate_dst (N := 3) rfl ?_); (with_reducible apply sl_alloc HM); infer_instance; clear HM; (try clear wq); intro g3 wq HM; (try simp only [Act.put, List.setIfInBounds_toArray, List.set_cons_zero, List.set_cons_succ])))
                                exact sl_ret1 rfl (vals_tmp rfl .nil) ⟨by rw [E.out], HM.sub⟩
                            · skip
                              have E : Aside0 (x.ok = false) := ⟨by rw [Bool.eq_false_iff]; intro h; simp only [Rec.ok, inB, Bool.and_eq_true, decide_eq_true_eq, beq_iff_eq] at h; omega⟩
                              have b0 : decide (x.pr < 0) = false := by simpa using c0
                              have b1 : decide (255 < x.pr) = false := by simpa using c1
                              have b2 : okA x.fr = true := by simpa using c2
                              have b3 : okA x.tt = true := by simpa using c3
                              have b4 : ((x.fr.size : Int) != (x.tt.size : Int)) = false := by simp; omega
                              have d4 : ((x.fr.size : Int) == (x.tt.size : Int)) = true := by simp; omega
                              have b5 : decide (x.po < 0) = false := by simpa using c5
                              have b6 : decide (65535 < x.po) = false := by simpa using c6
                              have b7 : decide (x.de < 0) = false := by simpa using c7
                              have b8 : decide (65535 < x.de) = false := by simpa using c8
                              have b9 : decide (0 ≤ x.ba) = true := by simpa using c9
                              have b10 : decide (x.ba ≤ 15) = true := by simpa using c10
                              have b11 : decide (1 ≤ x.st) = true := by simpa using c11
                              have b12 : decide (x.st ≤ 4) = true := by simpa using c12
                              have b13 : decide (0 ≤ x.le) = false := by simpa using c13
                              clear c0 c1 c2 c3 c4 c5 c6 c7 c8 c9 c10 c11 c12 c13
                              go_enter Try.func44, Try.ntmps44
                              go_wp2_with (first | (go_at_call 82; (with_reducible refine (right3_calls x.fr HF.out _).mono ?_); rintro e w1 ⟨rfl, rfl⟩) | (go_at_call 82; (with_reducible refine (right3_calls x.tt HT.out _).mono ?_); rintro e w1 ⟨rfl, rfl⟩) | go_step3 | ((with_reducible apply sl_want); exact rfl) | ((with_reducible apply sl_load HM); exact rfl; infer_instance; infer_instance; (try simp only [Act.put, List.setIfInBounds_toArray, List.set_cons_zero, List.set_cons_succ])) | ((with_reducible apply sl_store HM); exact rfl; (first | exact Ev.tmp rfl | exact Ev.const); infer_instance; infer_instance; infer_instance; clear HM; (try clear wq); intro wq HM; (try simp only [Act.put, List.setIfInBounds_toArray, List.set_cons_zero, List.set_cons_succ])) | ((with_reducible apply sl_loadR); exact rfl; assumption; (try simp only [Act.put, List.setIfInBounds_toArray, List.set_cons_zero, List.set_cons_succ])) | ((with_reducible apply sl_loadH HM); exact rfl; assumption; infer_instance; (try simp only [Act.put, List.setIfInBounds_toArray, List.set_cons_zero, List.set_cons_succ])) | ((with_reducible refine gate_dst (N := 1) rfl ?_); (with_reducible apply sl_box HM); (first | exact Ev.tmp rfl | exact Ev.const); exact rfl; clear HM; (try clear wq); intro g1 wq HM; (try simp only [Act.put, List.setIfInBounds_toArray, List.set_cons_zero, List.set_cons_succ])) | ((with_reducible refine gate_dst (N := 3) rfl ?_); (with_reducible apply sl_alloc HM); infer_instance; clear HM; (try clear wq); intro g3 wq HM; (try simp only [Act.put, List.setIfInBounds_toArray, List.set_cons_zero, List.set_cons_succ])))
                              exact sl_ret1 rfl (vals_tmp rfl .nil) ⟨by rw [E.out], HM.sub⟩
                          · skip
                            have E : Aside0 (x.ok = false) := ⟨by rw [Bool.eq_false_iff]; intro h; simp only [Rec.ok, inB, Bool.and_eq_true, decide_eq_true_eq, beq_iff_eq] at h; omega⟩
                            have b0 : decide (x.pr < 0) = false := by simpa using c0
                            have b1 : decide (255 < x.pr) = false := by simpa using c1
                            have b2 : okA x.fr = true := by simpa using c2
                            have b3 : okA x.tt = true := by simpa using c3
                            have b4 : ((x.fr.size : Int) != (x.tt.size : Int)) = false := by simp; omega
                            have d4 : ((x.fr.size : Int) == (x.tt.size : Int)) = true := by simp; omega
                            have b5 : decide (x.po < 0) = false := by simpa using c5
                            have b6 : decide (65535 < x.po) = false := by simpa using c6
                            have b7 : decide (x.de < 0) = false := by simpa using c7
                            have b8 : decide (65535 < x.de) = false := by simpa using c8
                            have b9 : decide (0 ≤ x.ba) = true := by simpa using c9
                            have b10 : decide (x.ba ≤ 15) = true := by simpa using c10
                            have b11 : decide (1 ≤ x.st) = true := by simpa using c11
                            have b12 : decide (x.st ≤ 4) = false := by simpa using c12
                            clear c0 c1 c2 c3 c4 c5 c6 c7 c8 c9 c10 c11 c12
                            go_enter Try.func44, Try.ntmps44
                            go_wp2_with (first | (go_at_call 82; (with_reducible refine (right3_calls x.fr HF.out _).mono ?_); rintro e w1 ⟨rfl, rfl⟩) | (go_at_call 82; (with_reducible refine (right3_calls x.tt HT.out _).mono ?_); rintro e w1 ⟨rfl, rfl⟩) | go_step3 | ((with_reducible apply sl_want); exact rfl) | ((with_reducible apply sl_load HM); exact rfl; infer_instance; infer_instance; (try simp only [Act.put, List.setIfInBounds_toArray, List.set_cons_zero, List.set_cons_succ])) | ((with_reducible apply sl_store HM); exact rfl; (first | exact Ev.tmp rfl | exact Ev.const); infer_instance; infer_instance; infer_instance; clear HM; (try clear wq); intro wq HM; (try simp only [Act.put, List.setIfInBounds_toArray, List.set_cons_zero, List.set_cons_succ])) | ((with_reducible apply sl_loadR); exact rfl; assumption; (try simp only [Act.put, List.setIfInBounds_toArray, List.set_cons_zero, List.set_cons_succ])) | ((with_reducible apply sl_loadH HM); exact rfl; assumption; infer_instance; (try simp only [Act.put, List.setIfInBounds_toArray, List.set_cons_zero, List.set_cons_succ])) | ((with_reducible refine gate_dst (N := 1) rfl ?_); (with_reducible apply sl_box HM); (first | exact Ev.tmp rfl | exact Ev.const); exact rfl; clear HM; (try clear wq); intro g1 wq HM; (try simp only [Act.put, List.setIfInBounds_toArray, List.set_cons_zero, List.set_cons_succ])) | ((with_reducible refine gate_dst (N := 3) rfl ?_); (with_reducible apply sl_alloc HM); infer_instance; clear HM; (try clear wq); intro g3 wq HM; (try simp only [Act.put, List.setIfInBounds_toArray, List.set_cons_zero, List.set_cons_succ])))
                            exact sl_ret1 rfl (vals_tmp rfl .nil) ⟨by rw [E.out], HM.sub⟩
                        · skip
                          have E : Aside0 (x.ok = false) := ⟨by rw [Bool.eq_false_iff]; intro h; simp only [Rec.ok, inB, Bool.and_eq_true, decide_eq_true_eq, beq_iff_eq] at h; omega⟩
                          have b0 : decide (x.pr < 0) = false := by simpa using c0
                          have b1 : decide (255 < x.pr) = false := by simpa using c1
                          have b2 : okA x.fr = true := by simpa using c2
                          have b3 : okA x.tt = true := by simpa using c3
                          have b4 : ((x.fr.size : Int) != (x.tt.size : Int)) = false := by simp; omega
                          have d4 : ((x.fr.size : Int) == (x.tt.size : Int)) = true := by simp; omega
                          have b5 : decide (x.po < 0) = false := by simpa using c5
                          have b6 : decide (65535 < x.po) = false := by simpa using c6
                          have b7 : decide (x.de < 0) = false := by simpa using c7
                          have b8 : decide (65535 < x.de) = false := by simpa using c8
                          have b9 : decide (0 ≤ x.ba) = true := by simpa using c9
                          have b10 : decide (x.ba ≤ 15) = true := by simpa using c10
                          have b11 : decide (1 ≤ x.st) = false := by simpa using c11
                          clear c0 c1 c2 c3 c4 c5 c6 c7 c8 c9 c10 c11
                          go_enter Try.func44, Try.ntmps44
                          go_wp2_with (first | (go_at_call 82; (with_reducible refine (right3_calls x.fr HF.out _).mono ?_); rintro e w1 ⟨rfl, rfl⟩) | (go_at_call 82; (with_reducible refine (right3_calls x.tt HT.out _).mono ?_); rintro e w1 ⟨rfl, rfl⟩) | go_step3 | ((with_reducible apply sl_want); exact rfl) | ((with_reducible apply sl_load HM); exact rfl; infer_instance; infer_instance; (try simp only [Act.put, List.setIfInBounds_toArray, List.set_cons_zero, List.set_cons_succ])) | ((with_reducible apply sl_store HM); exact rfl; (first | exact Ev.tmp rfl | exact Ev.const); infer_instance; infer_instance; infer_instance; clear HM; (try clear wq); intro wq HM; (try simp only [Act.put, List.setIfInBounds_toArray, List.set_cons_zero, List.set_cons_succ])) | ((with_reducible apply sl_loadR); exact rfl; assumption; (try simp only [Act.put, List.setIfInBounds_toArray, List.set_cons_zero, List.set_cons_succ])) | ((with_reducible apply sl_loadH HM); exact rfl; assumption; infer_instance; (try simp only [Act.put, List.setIfInBounds_toArray, List.set_cons_zero, List.set_cons_succ])) | ((with_reducible refine gate_dst (N := 1) rfl ?_); (with_reducible apply sl_box HM); (first | exact Ev.tmp rfl | exact Ev.const); exact rfl; clear HM; (try clear wq); intro g1 wq HM; (try simp only [Act.put, List.setIfInBounds_toArray, List.set_cons_zero, List.set_cons_succ])) | ((with_reducible refine gate_dst (N := 3) rfl ?_); (with_reducible apply sl_alloc HM); infer_instance; clear HM; (try clear wq); intro g3 wq HM; (try simp only [Act.put, List.setIfInBounds_toArray, List.set_cons_zero, List.set_cons_succ])))
                          exact sl_ret1 rfl (vals_tmp rfl .nil) ⟨by rw [E.out], HM.sub⟩
                      · skip
                        have E : Aside0 (x.ok = false) := ⟨by rw [Bool.eq_false_iff]; intro h; simp only [Rec.ok, inB, Bool.and_eq_true, decide_eq_true_eq, beq_iff_eq] at h; omega⟩
                        have b0 : decide (x.pr < 0) = false := by simpa using c0
                        have b1 : decide (255 < x.pr) = false := by simpa using c1
                        have b2 : okA x.fr = true := by simpa using c2
                        have b3 : okA x.tt = true := by simpa using c3
                        have b4 : ((x.fr.size : Int) != (x.tt.size : Int)) = false := by simp; omega
                        have d4 : ((x.fr.size : Int) == (x.tt.size : Int)) = true := by simp; omega
                        have b5 : decide (x.po < 0) = false := by simpa using c5
                        have b6 : decide (65535 < x.po) = false := by simpa using c6
                        have b7 : decide (x.de < 0) = false := by simpa using c7
                        have b8 : decide (65535 < x.de) = false := by simpa using c8
                        have b9 : decide (0 ≤ x.ba) = true := by simpa using c9
                        have b10 : decide (x.ba ≤ 15) = false := by simpa using c10
                        clear c0 c1 c2 c3 c4 c5 c6 c7 c8 c9 c10
                        go_enter Try.func44, Try.ntmps44
                        go_wp2_with (first | (go_at_call 82; (with_reducible refine (right3_calls x.fr HF.out _).mono ?_); rintro e w1 ⟨rfl, rfl⟩) | (go_at_call 82; (with_reducible refine (right3_calls x.tt HT.out _).mono ?_); rintro e w1 ⟨rfl, rfl⟩) | go_step3 | ((with_reducible apply sl_want); exact rfl) | ((with_reducible apply sl_load HM); exact rfl; infer_instance; infer_instance; (try simp only [Act.put, List.setIfInBounds_toArray, List.set_cons_zero, List.set_cons_succ])) | ((with_reducible apply sl_store HM); exact rfl; (first | exact Ev.tmp rfl | exact Ev.const); infer_instance; infer_instance; infer_instance; clear HM; (try clear wq); intro wq HM; (try simp only [Act.put, List.setIfInBounds_toArray, List.set_cons_zero, List.set_cons_succ])) | ((with_reducible apply sl_loadR); exact rfl; assumption; (try simp only [Act.put, List.setIfInBounds_toArray, List.set_cons_zero, List.set_cons_succ])) | ((with_reducible apply sl_loadH HM); exact rfl; assumption; infer_instance; (try simp only [Act.put, List.setIfInBounds_toArray, List.set_cons_zero, List.set_cons_succ])) | ((with_reducible refine gate_dst (N := 1) rfl ?_); (with_reducible apply sl_box HM); (first | exact Ev.tmp rfl | exact Ev.const); exact rfl; clear HM; (try clear wq); intro g1 wq HM; (try simp only [Act.put, List.setIfInBounds_toArray, List.set_cons_zero, List.set_cons_succ])) | ((with_reducible refine gate_dst (N := 3) rfl ?_); (with_reducible apply sl_alloc HM); infer_instance; clear HM; (try clear wq); intro g3 wq HM; (try simp only [Act.put, List.setIfInBounds_toArray, List.set_cons_zero, List.set_cons_succ])))
                        exact sl_ret1 rfl (vals_tmp rfl .nil) ⟨by rw [E.out], HM.sub⟩
                    · skip
                      have E : Aside0 (x.ok = false) := ⟨by rw [Bool.eq_false_iff]; intro h; simp only [Rec.ok, inB, Bool.and_eq_true, decide_eq_true_eq, beq_iff_eq] at h; omega⟩
                      have b0 : decide (x.pr < 0) = false := by simpa using c0
                      have b1 : decide (255 < x.pr) = false := by simpa using c1
                      have b2 : okA x.fr = true := by simpa using c2
                      have b3 : okA x.tt = true := by simpa using c3
                      have b4 : ((x.fr.size : Int) != (x.tt.size : Int)) = false := by simp; omega
                      have d4 : ((x.fr.size : Int) == (x.tt.size : Int)) = true := by simp; omega
                      have b5 : decide (x.po < 0) = false := by simpa using c5
                      have b6 : decide (65535 < x.po) = false := by simpa using c6
                      have b7 : decide (x.de < 0) = false := by simpa using c7
                      have b8 : decide (65535 < x.de) = false := by simpa using c8
                      have b9 : decide (0 ≤ x.ba) = false := by simpa using c9
                      clear c0 c1 c2 c3 c4 c5 c6 c7 c8 c9
                      go_enter Try.func44, Try.ntmps44
                      go_wp2_with (first | (go_at_call 82; (with_reducible refine (right3_calls x.fr HF.out _).mono ?_); rintro e w1 ⟨rfl, rfl⟩) | (go_at_call 82; (with_reducible refine (right3_calls x.tt HT.out _).mono ?_); rintro e w1 ⟨rfl, rfl⟩) | go_step3 | ((with_reducible apply sl_want); exact rfl) | ((with_reducible apply sl_load HM); exact rfl; infer_instance; infer_instance; (try simp only [Act.put, List.setIfInBounds_toArray, List.set_cons_zero, List.set_cons_succ])) | ((with_reducible apply sl_store HM); exact rfl; (first | exact Ev.tmp rfl | exact Ev.const); infer_instance; infer_instance; infer_instance; clear HM; (try clear wq); intro wq HM; (try simp only [Act.put, List.setIfInBounds_toArray, List.set_cons_zero, List.set_cons_succ])) | ((with_reducible apply sl_loadR); exact rfl; assumption; (try simp only [Act.put, List.setIfInBounds_toArray, List.set_cons_zero, List.set_cons_succ])) | ((with_reducible apply sl_loadH HM); exact rfl; assumption; infer_instance; (try simp only [Act.put, List.setIfInBounds_toArray, List.set_cons_zero, List.set_cons_succ])) | ((with_reducible refine gate_dst (N := 1) rfl ?_); (with_reducible apply sl_box HM); (first | exact Ev.tmp rfl | exact Ev.const); exact rfl; clear HM; (try clear wq); intro g1 wq HM; (try simp only [Act.put, List.setIfInBounds_toArray, List.set_cons_zero, List.set_cons_succ])) | ((with_reducible refine gate_dst (N := 3) rfl ?_); (with_reducible apply sl_alloc HM); infer_instance; clear HM; (try clear wq); intro g3 wq HM; (try simp only [Act.put, List.setIfInBounds_toArray, List.set_cons_zero, List.set_cons_succ])))
                      exact sl_ret1 rfl (vals_tmp rfl .nil) ⟨by rw [E.out], HM.sub⟩
        · skip
          have E : Aside0 (x.ok = false) := ⟨by rw [Bool.eq_false_iff]; intro h; simp only [Rec.ok, inB, Bool.and_eq_true, decide_eq_true_eq, beq_iff_eq] at h; (have h3 : x.fr.size = x.tt.size := by omega); (have h4 := h.2.1); (unfold okA at h4 c3; rw [h3] at h4; exact c3 h4)⟩
          have b0 : decide (x.pr < 0) = false := by simpa using c0
          have b1 : decide (255 < x.pr) = false := by simpa using c1
          have b2 : okA x.fr = true := by simpa using c2
          have b3 : okA x.tt = false := by simpa using c3
          clear c0 c1 c2 c3
          go_enter Try.func44, Try.ntmps44
          go_wp2_with (first | (go_at_call 82; (with_reducible refine (right3_calls x.fr HF.out _).mono ?_); rintro e w1 ⟨rfl, rfl⟩) | (go_at_call 82; (with_reducible refine (right3_calls x.tt HT.out _).mono ?_); rintro e w1 ⟨rfl, rfl⟩) | go_step3 | ((with_reducible apply sl_want); exact rfl) | ((with_reducible apply sl_load HM); exact rfl; infer_instance; infer_instance; (try simp only [Act.put, List.setIfInBounds_toArray, List.set_cons_zero, List.set_cons_succ])) | ((with_reducible apply sl_store HM); exact rfl; (first | exact Ev.tmp rfl | exact Ev.const); infer_instance; infer_instance; infer_instance; clear HM; (try clear wq); intro wq HM; (try simp only [Act.put, List.setIfInBounds_toArray, List.set_cons_zero, List.set_cons_succ])) | ((with_reducible apply sl_loadR); exact rfl; assumption; (try simp only [Act.put, List.setIfInBounds_toArray, List.set_cons_zero, List.set_cons_succ])) | ((with_reducible apply sl_loadH HM); exact rfl; assumption; infer_instance; (try simp only [Act.put, List.setIfInBounds_toArray, List.set_cons_zero, List.set_cons_succ])) | ((with_reducible refine gate_dst (N := 1) rfl ?_); (with_reducible apply sl_box HM); (first | exact Ev.tmp rfl | exact Ev.const); exact rfl; clear HM; (try clear wq); intro g1 wq HM; (try simp only [Act.put, List.setIfInBounds_toArray, List.set_cons_zero, List.set_cons_succ])) | ((with_reducible refine gate_dst (N := 3) rfl ?_); (with_reducible apply sl_alloc HM); infer_instance; clear HM; (try clear wq); intro g3 wq HM; (try simp only [Act.put, List.setIfInBounds_toArray, List.set_cons_zero, List.set_cons_succ])))
          exact sl_ret1 rfl (vals_tmp rfl .nil) ⟨by rw [E.out], HM.sub⟩
      · skip
        have E : Aside0 (x.ok = false) := ⟨by rw [Bool.eq_false_iff]; intro h; simp only [Rec.ok, inB, Bool.and_eq_true, decide_eq_true_eq, beq_iff_eq] at h; exact absurd h.2.1 c2⟩
        have b0 : decide (x.pr < 0) = false := by simpa using c0
        have b1 : decide (255 < x.pr) = false := by simpa using c1
        have b2 : okA x.fr = false := by simpa using c2
        clear c0 c1 c2
        go_enter Try.func44, Try.ntmps44
        go_wp2_with (first | (go_at_call 82; (with_reducible refine (right3_calls x.fr HF.out _).mono ?_); rintro e w1 ⟨rfl, rfl⟩) | (go_at_call 82; (with_reducible refine (right3_calls x.tt HT.out _).mono ?_); rintro e w1 ⟨rfl, rfl⟩) | go_step3 | ((with_reducible apply sl_want); exact rfl) | ((with_reducible apply sl_load HM); exact rfl; infer_instance; infer_instance; (try simp only [Act.put, List.setIfInBounds_toArray, List.set_cons_zero, List.set_cons_succ])) | ((with_reducible apply sl_store HM); exact rfl; (first | exact Ev.tmp rfl | exact Ev.const); infer_instance; infer_instance; infer_instance; clear HM; (try clear wq); intro wq HM; (try simp only [Act.put, List.setIfInBounds_toArray, List.set_cons_zero, List.set_cons_succ])) | ((with_reducible apply sl_loadR); exact rfl; assumption; (try simp only [Act.put, List.setIfInBounds_toArray, List.set_cons_zero, List.set_cons_succ])) | ((with_reducible apply sl_loadH HM); exact rfl; assumption; infer_instance; (try simp only [Act.put, List.setIfInBounds_toArray, List.set_cons_zero, List.set_cons_succ])) | ((with_reducible refine gate_dst (N := 1) rfl ?_); (with_reducible apply sl_box HM); (first | exact Ev.tmp rfl | exact Ev.const); exact rfl; clear HM; (try clear wq); intro g1 wq HM; (try simp only [Act.put, List.setIfInBounds_toArray, List.set_cons_zero, List.set_cons_succ])) | ((with_reducible refine gate_dst (N := 3) rfl ?_); (with_reducible apply sl_alloc HM); infer_instance; clear HM; (try clear wq); intro g3 wq HM; (try simp only [Act.put, List.setIfInBounds_toArray, List.set_cons_zero, List.set_cons_succ])))
        exact sl_ret1 rfl (vals_tmp rfl .nil) ⟨by rw [E.out], HM.sub⟩
end Go.Proofs.Ytghfoooldcbdnaa
set_option linter.unusedVariables false
set_option linter.unusedSimpArgs false
namespace Go.Proofs.Ytghfoooldcbdnaa
open Go.RowKit Go.Proofs.Ytghfoooldcbdnaa.SL Go.Proofs.YtghfoooldcbdnaaW.PrintWords
abbrev fls (l : List Fl) : List Value := l.flatMap Fl.cells
theorem fl_len (f : Fl) : f.cells.length = 5 := rfl
theorem fls_snoc (l : List Fl) (r : Rec) : fls l ++ [.int .i64 r.pr, .string r.fr, .string r.tt, .int .i64 r.po, .int .i64 r.de] = fls (l ++ [r.fl]) := by
  simp only [fls, List.flatMap_append, List.flatMap_cons, List.flatMap_nil, List.append_nil]
  rfl
theorem fl_load {B : Nat} {w0 w : World} {H R : List As} {ad : Addr} {c n : Nat} {l : List Fl} [hv : Row H (.slice (some ad) n c) 51 5 n (fls l) R] (h : SL.Mod B w0 H w) {j : Nat} {f : Fl} (hb : l[j]? = some f) : (Instr.loadAt 51 (.pointer (some (ad.add (j * 5))))).run Try.prog w = .ok (.agg f.cells.toArray) w :=
  load_seg (ownsRow_reads (h.rowOwn (.slice (some ad) n c))).1 (j * 5) (flat_seg fl_len l j f hb) (fl_len f)
theorem fl_addr {B : Nat} {w0 w : World} {H R : List As} {A : Option Addr} {c n : Nat} {l : List Fl} [hv : Row H (.slice A n c) 51 5 n (fls l) R] (h : SL.Mod B w0 H w) {j : Nat} {f : Fl} (hb : l[j]? = some f) : ∃ ad, A = some ad :=
  (ownsRow_reads (h.rowOwn (.slice A n c))).1.addr (by rw [flat_len fl_len]; have := (List.getElem?_eq_some_iff.1 hb).1; omega)
end Go.Proofs.Ytghfoooldcbdnaa
