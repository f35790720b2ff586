/-
  THE WALKS OF THE LAWS SyncwireKinds AND SyncwireAnswers: they return true, and nothing that was there turns.
-/
import Derived.Test.YtghfoooldcbdnaaAnsP
import Derived.Test.YtghfoooldcbdnaaReads
set_option linter.unusedVariables false
set_option linter.unusedSimpArgs false
namespace Go.Proofs.Ytghfoooldcbdnaa
open Go.RowKit Go.Proofs.Ytghfoooldcbdnaa.SL Go.Proofs.YtghfoooldcbdnaaW.PrintWords

set_option maxHeartbeats 4000000 in
set_option maxRecDepth 100000 in
theorem SyncwireKinds_walk (W : World) (A : Option Addr) (xs : List Int) (c : Nat) (hr : Reads W A (bytes xs)) (hb : ∀ x ∈ xs, 0 ≤ x ∧ x < 256) (hm : xs.length ≤ 140737488355328) (hc : xs.length ≤ c) :
    Calls Try.prog 14 #[.slice A xs.length c] W (TrueW W) := by
  have HM := Mod.start W
  have HR := Aside0.mk hr
  have HB : Aside0 (Byt xs) := ⟨hb⟩
  have HC := Aside0.mk hc
  have HX := Aside0.mk hm
  obtain ⟨⟨s, n, l, er⟩, h⟩ : ∃ p, dRes (rdec xs) = p := ⟨_, rfl⟩
  obtain ⟨⟨s2, n2, gg2, f2, er2⟩, h2⟩ : ∃ p, aRes (adec xs) = p := ⟨_, rfl⟩
  have hk := kinds xs hb
  rw [pdec_rdec xs hb] at hk
  have hE : er = 140 ∨ (er = 0 ∧ er2 = 140) := by
    cases hd : rdec xs with
    | none => rw [hd] at h; simp only [dRes, Prod.mk.injEq] at h; exact .inl h.2.2.2.symm
    | some p =>
      rw [hd] at h hk
      have ha : adec xs = none := by
        rcases hk with hk | hk
        · cases hk
        · exact hk
      rw [ha] at h2
      simp only [dRes, Prod.mk.injEq] at h
      simp only [aRes, Prod.mk.injEq] at h2
      exact .inr ⟨h.2.2.2.symm, h2.2.2.2.2.symm⟩
  have H := Aside0.mk h
  have H2 := Aside0.mk h2
  clear hr hb h h2 hm hc hk
  rcases hE with rfl | ⟨rfl, rfl⟩
  · go_enter Try.func14, Try.ntmps14
    go_wp2_with (first | (go_at_call 38; refine (dec_as xs HB.out s n 140 l H.out A c HC.out HX.out _ (HR.out.below HM.below)).mono ?_; rintro e wq ⟨A9, c9, rfl, hj⟩; have HM1 := HM.join hj; clear HM hj; have HM := HM1; clear HM1; simp only [List.cons_append, List.nil_append] at HM) | (go_at_call 50; refine (ansd_as xs HB.out xs.length rfl s2 n2 f2 er2 gg2 H2.out A c HC.out HX.out _ (HR.out.below HM.below)).mono ?_; rintro e wq ⟨rfl, hj⟩; have HM1 := HM.step hj.below; clear HM hj; have HM := HM1; clear HM1) | (go_at_call 40; (with_reducible refine (alive14_calls _).mono ?_); rintro e wq ⟨rfl, hj⟩; have HM1 := HM.step hj.below; clear HM hj; have HM := HM1; clear HM1) | (first | go_step3 | ((with_reducible apply sl_want); exact rfl) | ((with_reducible apply sl_load HM); exact rfl; infer_instance; infer_instance; (try simp only [Act.put, List.setIfInBounds_toArray, List.set_cons_zero, List.set_cons_succ])) | ((with_reducible apply sl_store HM); exact rfl; (first | exact Ev.tmp rfl | exact Ev.const); infer_instance; infer_instance; infer_instance; clear HM; (try clear wq); intro wq HM; (try simp only [Act.put, List.setIfInBounds_toArray, List.set_cons_zero, List.set_cons_succ])) | ((with_reducible apply sl_loadR); exact rfl; assumption; (try simp only [Act.put, List.setIfInBounds_toArray, List.set_cons_zero, List.set_cons_succ])) | ((with_reducible apply sl_loadH HM); exact rfl; assumption; infer_instance; (try simp only [Act.put, List.setIfInBounds_toArray, List.set_cons_zero, List.set_cons_succ])) | ((with_reducible refine gate_dst (N := 3) rfl ?_); (with_reducible apply sl_alloc HM); infer_instance; clear HM; (try clear wq); intro g3 wq HM; (try simp only [Act.put, List.setIfInBounds_toArray, List.set_cons_zero, List.set_cons_succ])) | ((with_reducible refine gate_dst (N := 5) rfl ?_); (with_reducible apply sl_alloc HM); infer_instance; clear HM; (try clear wq); intro g5 wq HM; (try simp only [Act.put, List.setIfInBounds_toArray, List.set_cons_zero, List.set_cons_succ]))))
    exact sl_ret1 rfl (vals_tmp rfl .nil) (show TrueW W _ _ from ⟨rfl, HM.below⟩)
  · go_enter Try.func14, Try.ntmps14
    go_wp2_with (first | (go_at_call 38; refine (dec_as xs HB.out s n 0 l H.out A c HC.out HX.out _ (HR.out.below HM.below)).mono ?_; rintro e wq ⟨A9, c9, rfl, hj⟩; have HM1 := HM.join hj; clear HM hj; have HM := HM1; clear HM1; simp only [List.cons_append, List.nil_append] at HM) | (go_at_call 50; refine (ansd_as xs HB.out xs.length rfl s2 n2 f2 140 gg2 H2.out A c HC.out HX.out _ (HR.out.below HM.below)).mono ?_; rintro e wq ⟨rfl, hj⟩; have HM1 := HM.step hj.below; clear HM hj; have HM := HM1; clear HM1) | (go_at_call 40; (with_reducible refine (alive14_calls _).mono ?_); rintro e wq ⟨rfl, hj⟩; have HM1 := HM.step hj.below; clear HM hj; have HM := HM1; clear HM1) | (first | go_step3 | ((with_reducible apply sl_want); exact rfl) | ((with_reducible apply sl_load HM); exact rfl; infer_instance; infer_instance; (try simp only [Act.put, List.setIfInBounds_toArray, List.set_cons_zero, List.set_cons_succ])) | ((with_reducible apply sl_store HM); exact rfl; (first | exact Ev.tmp rfl | exact Ev.const); infer_instance; infer_instance; infer_instance; clear HM; (try clear wq); intro wq HM; (try simp only [Act.put, List.setIfInBounds_toArray, List.set_cons_zero, List.set_cons_succ])) | ((with_reducible apply sl_loadR); exact rfl; assumption; (try simp only [Act.put, List.setIfInBounds_toArray, List.set_cons_zero, List.set_cons_succ])) | ((with_reducible apply sl_loadH HM); exact rfl; assumption; infer_instance; (try simp only [Act.put, List.setIfInBounds_toArray, List.set_cons_zero, List.set_cons_succ])) | ((with_reducible refine gate_dst (N := 3) rfl ?_); (with_reducible apply sl_alloc HM); infer_instance; clear HM; (try clear wq); intro g3 wq HM; (try simp only [Act.put, List.setIfInBounds_toArray, List.set_cons_zero, List.set_cons_succ])) | ((with_reducible refine gate_dst (N := 5) rfl ?_); (with_reducible apply sl_alloc HM); infer_instance; clear HM; (try clear wq); intro g5 wq HM; (try simp only [Act.put, List.setIfInBounds_toArray, List.set_cons_zero, List.set_cons_succ]))))
    exact sl_ret1 rfl (vals_tmp rfl .nil) (show TrueW W _ _ from ⟨rfl, HM.below⟩)

theorem byt_nil : Byt [] := fun x hx => by cases hx
theorem ans_no (s n f : Int) (g : Bool) (h : ansOk s n = false) (hf0 : 0 ≤ f) (hf1 : f ≤ 18446744073709551615) (w : World) :
    Calls Try.prog 48 #[.agg #[.int .i64 s, .int .i64 n, .bool g, .int .u64 f]] w fun e w' => ∃ A' c', e = .returned (.tuple #[.slice A' 0 c', .int .i64 140]) ∧ Mod w.heap.size w [row (.slice A' 0 c') 5 1 0 (bytes [])] w' := by
  refine (EncodeAnswer_calls s n f g hf0 hf1 w).mono fun e w' => ?_
  rintro ⟨v, rfl, hj⟩
  have e2 : ansE s n g f = [] := by unfold ansE; rw [h]; rfl
  rw [e2] at hj
  obtain ⟨A', c', rfl, hc⟩ := row_slice (hj.rowOwn v)
  exact ⟨A', c', by rw [h]; rfl, hj⟩
theorem refAns_no0 (s n f : Int) (g : Bool) (h : ansOk s n = false) (hf0 : 0 ≤ f) (hf1 : f ≤ 18446744073709551615) (w : World) :
    Calls Try.prog 49 #[.agg #[.int .i64 s, .int .i64 n, .bool g, .int .u64 f]] w fun e w' => ∃ A c, e = .returned (.tuple #[.slice A 0 c, .int .i64 140]) ∧ Mod w.heap.size w [SL.seen A (bytes [])] w' := by
  refine (refEncodeAnswer_calls s n f g hf0 hf1 w).mono fun e w' => ?_
  rintro ⟨A, c, rfl, hj⟩
  have e2 : ansE s n g f = [] := by unfold ansE; rw [h]; rfl
  rw [e2] at hj ⊢
  exact ⟨A, c, by rw [h]; rfl, hj⟩
set_option maxHeartbeats 8000000 in
set_option maxRecDepth 100000 in
theorem SyncwireAnswers_walk (W : World) (s n : Int) (g : Bool) (f : Int) (hf0 : 0 ≤ f) (hf1 : f ≤ 18446744073709551615) (A : Option Addr) (xs : List Int) (c : Nat) (hr : Reads W A (bytes xs)) (hb : ∀ x ∈ xs, 0 ≤ x ∧ x < 256) (hm : xs.length ≤ 140737488355328) (hc : xs.length ≤ c) :
    Calls Try.prog 12 #[.agg #[.int .i64 s, .int .i64 n, .bool g, .int .u64 f], .slice A xs.length c] W (TrueW W) := by
  have HM := Mod.start W
  have HR := Aside0.mk hr
  have HB : Aside0 (Byt xs) := ⟨hb⟩
  have HC := Aside0.mk hc
  have HX := Aside0.mk hm
  have HF := Aside0.mk (And.intro hf0 hf1)
  obtain ⟨⟨s2, n2, gg2, f2, er2⟩, h2⟩ : ∃ p, aRes (adec xs) = p := ⟨_, rfl⟩
  have H2 := Aside0.mk h2
  clear hr hb h2 hm hc hf0 hf1
  cases ho : ansOk s n with
  | true =>
    have HO := Aside0.mk ho
    have HA : Aside0 (aRes (adec (ansB s n g f)) = (s, n, g, f, 0)) := ⟨by rw [(adec_iff (ansB s n g f) (Byt.ans _ _ _ _) s n f g).2 ⟨⟨HO.out, HF.out⟩, rfl⟩]; rfl⟩
    clear ho
    go_enter Try.func12, Try.ntmps12
    go_wp2_with (first | (go_at_call 48; refine (ans_b s n f g HO.out HF.out.1 HF.out.2 _).mono ?_; rintro e wq ⟨A17, c17, rfl, hc17, hj⟩; have HC17 := Aside0.mk hc17; clear hc17; have HM1 := HM.join hj; clear HM hj; have HM := HM1; clear HM1; simp only [List.cons_append, List.nil_append] at HM) | (go_at_call 49; refine (refAns_ok s n f g HO.out HF.out.1 HF.out.2 _).mono ?_; rintro e wq ⟨A22, c22, rfl, hj⟩; have HM1 := HM.join hj; clear HM hj; have HM := HM1; clear HM1; simp only [List.cons_append, List.nil_append] at HM) | (go_at_call 50; (with_reducible refine (ansd_as xs HB.out xs.length rfl s2 n2 f2 er2 gg2 H2.out A c HC.out HX.out _ (HR.out.below HM.below)).mono ?_); rintro e wq ⟨rfl, hj⟩; have HM1 := HM.step hj.below; clear HM hj; have HM := HM1; clear HM1) | (go_at_call 51; refine (ransd_as xs HB.out s2 n2 f2 er2 gg2 H2.out A c HC.out HX.out _ (HR.out.below HM.below)).mono ?_; rintro e wq ⟨rfl, hj⟩; have HM1 := HM.step hj.below; clear HM hj; have HM := HM1; clear HM1) | (go_at_call 50; (with_reducible refine (ansd_as (ansB s n g f) (Byt.ans _ _ _ _) 27 (ansB_len _ _ _ _) s n f 0 g HA.out A17 c17 HC17.out (by omega) _ (ownsRow_reads (HM.rowOwn (.slice A17 27 c17))).1).mono ?_); rintro e wq ⟨rfl, hj⟩; have HM1 := HM.step hj.below; clear HM hj; have HM := HM1; clear HM1) | ((with_reducible apply sl_textS (xs := ansB s n g f) Try.underlying73); exact Try.underlying5; exact Try.underlying9; exact rfl; exact (ownsRow_reads (HM.rowOwn (.slice A17 27 c17))).1; exact ansB_len _ _ _ _; (try simp only [Act.put, List.setIfInBounds_toArray, List.set_cons_zero, List.set_cons_succ])) | ((with_reducible apply sl_textS (xs := ansB s n g f) Try.underlying73); exact Try.underlying5; exact Try.underlying9; exact rfl; exact HM.seenAt A22; exact ansB_len _ _ _ _; (try simp only [Act.put, List.setIfInBounds_toArray, List.set_cons_zero, List.set_cons_succ])) | (go_at_call 40; (with_reducible refine (alive14_calls _).mono ?_); rintro e wq ⟨rfl, hj⟩; have HM1 := HM.step hj.below; clear HM hj; have HM := HM1; clear HM1) | (first | go_step3 | ((with_reducible apply sl_want); exact rfl) | ((with_reducible apply sl_load HM); exact rfl; infer_instance; infer_instance; (try simp only [Act.put, List.setIfInBounds_toArray, List.set_cons_zero, List.set_cons_succ])) | ((with_reducible apply sl_store HM); exact rfl; (first | exact Ev.tmp rfl | exact Ev.const); infer_instance; infer_instance; infer_instance; clear HM; (try clear wq); intro wq HM; (try simp only [Act.put, List.setIfInBounds_toArray, List.set_cons_zero, List.set_cons_succ])) | ((with_reducible apply sl_loadR); exact rfl; assumption; (try simp only [Act.put, List.setIfInBounds_toArray, List.set_cons_zero, List.set_cons_succ])) | ((with_reducible apply sl_loadH HM); exact rfl; assumption; infer_instance; (try simp only [Act.put, List.setIfInBounds_toArray, List.set_cons_zero, List.set_cons_succ])) | ((with_reducible refine gate_dst (N := 2) rfl ?_); (with_reducible apply sl_box HM); (first | exact Ev.tmp rfl | exact Ev.const); exact rfl; clear HM; (try clear wq); intro g2 wq HM; (try simp only [Act.put, List.setIfInBounds_toArray, List.set_cons_zero, List.set_cons_succ])) | ((with_reducible refine gate_dst (N := 9) rfl ?_); (with_reducible apply sl_alloc HM); infer_instance; clear HM; (try clear wq); intro g9 wq HM; (try simp only [Act.put, List.setIfInBounds_toArray, List.set_cons_zero, List.set_cons_succ])) | ((with_reducible refine gate_dst (N := 11) rfl ?_); (with_reducible apply sl_alloc HM); infer_instance; clear HM; (try clear wq); intro g11 wq HM; (try simp only [Act.put, List.setIfInBounds_toArray, List.set_cons_zero, List.set_cons_succ])) | ((with_reducible refine gate_dst (N := 13) rfl ?_); (with_reducible apply sl_alloc HM); infer_instance; clear HM; (try clear wq); intro g13 wq HM; (try simp only [Act.put, List.setIfInBounds_toArray, List.set_cons_zero, List.set_cons_succ]))))
    exact sl_ret1 rfl (vals_tmp rfl .nil) (show TrueW W _ _ from ⟨rfl, HM.below⟩)
  | false =>
    have HO := Aside0.mk ho
    have HA : Aside0 (aRes (adec []) = (0, 0, false, 0, 140)) := ⟨rfl⟩
    clear ho
    go_enter Try.func12, Try.ntmps12
    go_wp2_with (first | (go_at_call 48; refine (ans_no s n f g HO.out HF.out.1 HF.out.2 _).mono ?_; rintro e wq ⟨A17, c17, rfl, hj⟩; have HM1 := HM.join hj; clear HM hj; have HM := HM1; clear HM1; simp only [List.cons_append, List.nil_append] at HM) | (go_at_call 49; refine (refAns_no0 s n f g HO.out HF.out.1 HF.out.2 _).mono ?_; rintro e wq ⟨A22, c22, rfl, hj⟩; have HM1 := HM.join hj; clear HM hj; have HM := HM1; clear HM1; simp only [List.cons_append, List.nil_append] at HM) | (go_at_call 50; (with_reducible refine (ansd_as xs HB.out xs.length rfl s2 n2 f2 er2 gg2 H2.out A c HC.out HX.out _ (HR.out.below HM.below)).mono ?_); rintro e wq ⟨rfl, hj⟩; have HM1 := HM.step hj.below; clear HM hj; have HM := HM1; clear HM1) | (go_at_call 51; refine (ransd_as xs HB.out s2 n2 f2 er2 gg2 H2.out A c HC.out HX.out _ (HR.out.below HM.below)).mono ?_; rintro e wq ⟨rfl, hj⟩; have HM1 := HM.step hj.below; clear HM hj; have HM := HM1; clear HM1) | (go_at_call 50; (with_reducible refine (ansd_as [] byt_nil 0 rfl 0 0 0 140 false HA.out A17 c17 (Nat.zero_le _) (by omega) _ (ownsRow_reads (HM.rowOwn (.slice A17 0 c17))).1).mono ?_); rintro e wq ⟨rfl, hj⟩; have HM1 := HM.step hj.below; clear HM hj; have HM := HM1; clear HM1) | ((with_reducible apply sl_textS (xs := []) Try.underlying73); exact Try.underlying5; exact Try.underlying9; exact rfl; exact (ownsRow_reads (HM.rowOwn (.slice A17 0 c17))).1; exact rfl; (try simp only [Act.put, List.setIfInBounds_toArray, List.set_cons_zero, List.set_cons_succ])) | ((with_reducible apply sl_textS (xs := []) Try.underlying73); exact Try.underlying5; exact Try.underlying9; exact rfl; exact HM.seenAt A22; exact rfl; (try simp only [Act.put, List.setIfInBounds_toArray, List.set_cons_zero, List.set_cons_succ])) | (go_at_call 40; (with_reducible refine (alive14_calls _).mono ?_); rintro e wq ⟨rfl, hj⟩; have HM1 := HM.step hj.below; clear HM hj; have HM := HM1; clear HM1) | (first | go_step3 | ((with_reducible apply sl_want); exact rfl) | ((with_reducible apply sl_load HM); exact rfl; infer_instance; infer_instance; (try simp only [Act.put, List.setIfInBounds_toArray, List.set_cons_zero, List.set_cons_succ])) | ((with_reducible apply sl_store HM); exact rfl; (first | exact Ev.tmp rfl | exact Ev.const); infer_instance; infer_instance; infer_instance; clear HM; (try clear wq); intro wq HM; (try simp only [Act.put, List.setIfInBounds_toArray, List.set_cons_zero, List.set_cons_succ])) | ((with_reducible apply sl_loadR); exact rfl; assumption; (try simp only [Act.put, List.setIfInBounds_toArray, List.set_cons_zero, List.set_cons_succ])) | ((with_reducible apply sl_loadH HM); exact rfl; assumption; infer_instance; (try simp only [Act.put, List.setIfInBounds_toArray, List.set_cons_zero, List.set_cons_succ])) | ((with_reducible refine gate_dst (N := 2) rfl ?_); (with_reducible apply sl_box HM); (first | exact Ev.tmp rfl | exact Ev.const); exact rfl; clear HM; (try clear wq); intro g2 wq HM; (try simp only [Act.put, List.setIfInBounds_toArray, List.set_cons_zero, List.set_cons_succ])) | ((with_reducible refine gate_dst (N := 9) rfl ?_); (with_reducible apply sl_alloc HM); infer_instance; clear HM; (try clear wq); intro g9 wq HM; (try simp only [Act.put, List.setIfInBounds_toArray, List.set_cons_zero, List.set_cons_succ])) | ((with_reducible refine gate_dst (N := 11) rfl ?_); (with_reducible apply sl_alloc HM); infer_instance; clear HM; (try clear wq); intro g11 wq HM; (try simp only [Act.put, List.setIfInBounds_toArray, List.set_cons_zero, List.set_cons_succ])) | ((with_reducible refine gate_dst (N := 13) rfl ?_); (with_reducible apply sl_alloc HM); infer_instance; clear HM; (try clear wq); intro g13 wq HM; (try simp only [Act.put, List.setIfInBounds_toArray, List.set_cons_zero, List.set_cons_succ]))))
    exact sl_ret1 rfl (vals_tmp rfl .nil) (show TrueW W _ _ from ⟨rfl, HM.below⟩)
end Go.Proofs.Ytghfoooldcbdnaa
