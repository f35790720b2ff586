/-
  Room OF PACKAGE syncwire: how many records one batch takes.
-/
import Derived.Test.YtghfoooldcbdnaaWire
import Derived.Outline
set_option linter.unusedVariables false
set_option linter.unusedSimpArgs false
namespace Go.Proofs.Ytghfoooldcbdnaa
open Go.RowKit Go.Proofs.Ytghfoooldcbdnaa.SL Go.Proofs.YtghfoooldcbdnaaW.PrintWords

theorem rec_len (r : Rec) : r.cells.length = 8 := rfl
abbrev recs (l : List Rec) : List Value := l.flatMap Rec.cells
/-- No record's texts are past the form's reach. -/
def Fits (l : List Rec) : Prop := ∀ r ∈ l, r.fr.size ≤ 140737488355328 ∧ r.tt.size ≤ 140737488355328

/-- After k rounds: so many bytes. -/
def roomN : Nat → List Rec → Nat
  | n, [] => n
  | n, r :: l => roomN (n + r.size) l
theorem roomGo_at : ∀ (l : List Rec) (n k : Nat), roomGo n k l ≤ k + l.length
  | [], _, _ => by simp [roomGo]
  | r :: l, n, k => by
    unfold roomGo
    split
    · omega
    · have := roomGo_at l (n + r.size) (k + 1)
      simp only [List.length_cons]; omega

set_option maxHeartbeats 1000000 in
set_option maxRecDepth 100000 in
theorem Room_calls (l : List Rec) (hl : Fits l) (A : Option Addr) (c : Nat) (hm : l.length ≤ maxLen) (w : World) (hr : Reads w A (recs l)) :
    Calls Try.prog 47 #[.slice A l.length c] w fun e w' => e = .returned (.int .i64 (room l)) ∧ Mod w.heap.size w [] w' := by
  have HM := Mod.start w
  unfold maxLen at hm
  have HR := Aside0.mk hr
  have HL := Aside0.mk hl
  clear hr hl
  go_enter Try.func47, Try.ntmps47
  go_wp2
  go_loopw [3, 8] (fun v3 v8 wr => ∃ (k n : Nat), v3 = .int .i64 n ∧ v8 = .int .i64 k ∧ k ≤ l.length ∧ n ≤ 1400 ∧ Aside0 (room l = roomGo n k (l.drop k)) ∧ Aside0 (Mod w.heap.size w [] wr)) (fun _ v8 _ => l.length - (intOf v8).toNat)
  case atStart => exact ⟨0, 19, rfl, rfl, by omega, by omega, ⟨by simp [room]⟩, ⟨HM⟩⟩
  case round =>
    obtain ⟨k, n, rfl, rfl, hk, hn, HE, HM0⟩ := hrel
    clear HM
    have HM := HM0.out
    clear HM0
    by_cases hlt : k < l.length
    · have hr := (HR.out.below HM.below)
      obtain ⟨ad, rfl⟩ := hr.addr (by rw [flat_len rec_len]; omega)
      obtain ⟨r, hrk⟩ : ∃ r, l[k]? = some r := ⟨_, List.getElem?_eq_getElem hlt⟩
      have hld := Aside0.mk (load_seg (P := Try.prog) (t := 53) hr (k * 8) (flat_seg rec_len l k r hrk) (rec_len r))
      have hfit := HL.out r (List.mem_of_getElem? hrk)
      have hd : l.drop k = r :: l.drop (k + 1) := by rw [List.drop_eq_getElem_cons hlt]; simp [List.getElem?_eq_getElem hlt] at hrk; rw [hrk]
      have HE' := HE.out
      rw [hd, roomGo] at HE'
      have HE2 := Aside0.mk HE'
      clear HE' hd hrk
      have HF := Aside0.mk hfit
      have hs0 : r.size ≤ 281474976710666 := by unfold Rec.size; omega
      go_wp2_with (first | (go_at_call 83; refine (size_calls r HF.out.1 HF.out.2 _).mono ?_; rintro e wq ⟨rfl, hj⟩; have HM1 := HM.step hj.below; clear HM hj; have HM := HM1; clear HM1) | go_step3 | ((with_reducible apply sl_want); exact rfl) | ((with_reducible apply sl_load HM); exact rfl; infer_instance; infer_instance; (try simp only [Act.put, List.setIfInBounds_toArray, List.set_cons_zero, List.set_cons_succ])) | ((with_reducible apply sl_store HM); exact rfl; (first | exact Ev.tmp rfl | exact Ev.const); infer_instance; infer_instance; infer_instance; clear HM; (try clear wq); intro wq HM; (try simp only [Act.put, List.setIfInBounds_toArray, List.set_cons_zero, List.set_cons_succ])) | ((with_reducible apply sl_loadR); exact rfl; assumption; (try simp only [Act.put, List.setIfInBounds_toArray, List.set_cons_zero, List.set_cons_succ])) | ((with_reducible refine gate_dst (N := 5) rfl ?_); (with_reducible apply sl_alloc HM); infer_instance; clear HM; (try clear wq); intro g5 wq HM; (try simp only [Act.put, List.setIfInBounds_toArray, List.set_cons_zero, List.set_cons_succ])))
      · have hsz : r.size = 10 + r.fr.size + r.tt.size := rfl
        refine sl_ret1 rfl (vals_tmp rfl .nil) ⟨?_, HM.sub⟩
        rw [HE2.out, if_pos (by omega)]
      · have hsz : r.size = 10 + r.fr.size + r.tt.size := rfl
        refine ⟨⟨k + 1, n + r.size, by simp, by simp, by omega, by omega, ⟨?_⟩, ⟨HM.sub⟩⟩, by simp [intOf]; omega⟩
        rw [HE2.out, if_neg (by omega)]
      · have hsz : r.size = 10 + r.fr.size + r.tt.size := rfl
        refine sl_ret1 rfl (vals_tmp rfl .nil) ⟨?_, HM.sub⟩
        rw [HE2.out, if_pos (by omega)]
    · go_wp2
      refine sl_ret1 rfl (vals_tmp rfl .nil) ⟨?_, HM.sub⟩
      have : k = l.length := by omega
      rw [HE.out, this, List.drop_length]; rfl
end Go.Proofs.Ytghfoooldcbdnaa
