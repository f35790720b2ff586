/-
  THE SENDER OF PACKAGE syncout: Send, whatever the time; one record, few operations.
-/
import Derived.Test.YtghfoooldcbdnaaSnd9
set_option linter.unusedVariables false
set_option linter.unusedSimpArgs false
namespace Go.Proofs.Ytghfoooldcbdnaa
open Go.RowKit Go.Proofs.Ytghfoooldcbdnaa.SL Go.Proofs.YtghfoooldcbdnaaW.PrintWords

/-- What is sent, and what is kept, whatever the time. -/
def SS.sends (S : SS) (now : Int) : SP × List (Int × List Rec) := if 0 ≤ now ∧ now ≤ 1099511627776 then S.sent now else (S.p, [])
theorem Send_calls (g : Nat) (S : SS) (now : Int) (hev : 0 ≤ S.ev ∧ S.ev ≤ 10000) (hl : S.rg.length ≤ 1000) (hxl : ∀ x ∈ S.rg, x.l.length ≤ 64) (hxn : ∀ x ∈ S.rg, 0 ≤ x.n ∧ x.n ≤ 4611686018427387000) (hq : ∀ r ∈ S.q, r.ok = true) (hql : S.q.length ≤ 500) (hnx : 0 ≤ S.nx ∧ S.nx ≤ 4611686018427387000) (B : Nat) (w0 w : World) (H : List As) (HM : SL.Mod B w0 (snd g S :: H) w) :
    Calls Try.prog 34 #[.pointer (some ⟨g, 0, none⟩), .int .i64 now] w fun e w' => ∃ (v : Value) (bl : List Bt) (S' : SS), e = .returned v ∧ (S'.p, bl.map Bt.v) = S.sends now ∧ SL.Mod B w0 (snd g S' :: row v 61 3 bl.length (bts S.s bl) :: SL.star (bl.map Bt.own) :: H) w' := by
  unfold SS.sends
  by_cases h : 0 ≤ now ∧ now ≤ 1099511627776
  · rw [if_pos h]
    exact Send_go g S now h.1 h.2 hev hl hxl hxn hq hql hnx B w0 w H HM
  · rw [if_neg h]
    refine (Send_no g S now (by omega) B w0 w H HM).mono ?_
    rintro e w' ⟨rfl, HM1⟩
    have HM2 : SL.Mod B w0 (SL.star (([] : List Bt).map Bt.own) :: row (.slice none 0 0) 61 3 ([] : List Bt).length (bts S.s []) :: snd g S :: H) w' := Mod.starNil (HM1.nilRow 61 3)
    exact ⟨_, [], S, rfl, rfl, HM2.sub⟩
/-- The one record of the trial. -/
def one15 : Rec := ⟨6, ⟨#[49, 50, 51, 52]⟩, ⟨#[53, 54, 55, 56]⟩, 1, 0, 0, 1, 9⟩
set_option maxHeartbeats 1000000 in
set_option maxRecDepth 100000 in
theorem one15_calls (B : Nat) (w0 w : World) (H : List As) (HM : SL.Mod B w0 H w) : Calls Try.prog 65 #[] w fun e w' => e = .returned (.agg one15.cells.toArray) ∧ SL.Mod B w0 H w' := by
  go_enter Try.func65, Try.ntmps65
  go_wp2_with (first | go_step3 | ((with_reducible apply sl_want); exact rfl) | ((with_reducible apply sl_load HM); exact rfl; infer_instance; infer_instance; (try simp only [Act.put, List.setIfInBounds_toArray, List.set_cons_zero, List.set_cons_succ])) | ((with_reducible apply sl_store HM); exact rfl; (first | exact Ev.tmp rfl | exact Ev.const); infer_instance; infer_instance; infer_instance; clear HM; (try clear wq); intro wq HM; (try simp only [Act.put, List.setIfInBounds_toArray, List.set_cons_zero, List.set_cons_succ])) | ((with_reducible apply sl_loadR); exact rfl; assumption; (try simp only [Act.put, List.setIfInBounds_toArray, List.set_cons_zero, List.set_cons_succ])) | ((with_reducible apply sl_loadH HM); exact rfl; assumption; infer_instance; (try simp only [Act.put, List.setIfInBounds_toArray, List.set_cons_zero, List.set_cons_succ])) | ((with_reducible refine gate_dst (N := 0) rfl ?_); (with_reducible apply sl_alloc HM); infer_instance; clear HM; (try clear wq); intro g0 wq HM; (try simp only [Act.put, List.setIfInBounds_toArray, List.set_cons_zero, List.set_cons_succ])))
  exact sl_ret1 rfl (vals_cell HM rfl inferInstance inferInstance rfl .nil) ⟨rfl, HM.sub⟩
set_option maxHeartbeats 1000000 in
set_option maxRecDepth 100000 in
theorem few_calls (A : Option Addr) (n c : Nat) (w : World) : Calls Try.prog 31 #[.slice A n c] w fun e w' => e = .returned (.bool (decide ((n : Int) ≤ 400))) ∧ w = w' := by
  go_enter Try.func31, Try.ntmps31
  go_wp2
  exact sl_ret1 rfl (vals_tmp rfl .nil) ⟨rfl, rfl⟩
end Go.Proofs.Ytghfoooldcbdnaa
