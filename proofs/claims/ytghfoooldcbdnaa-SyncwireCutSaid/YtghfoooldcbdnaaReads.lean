/-
  THE WALK OF THE LAW SyncwireReads: any bytes are read as the document reads them; it returns true, and nothing that was there turns.
-/
import Derived.Test.YtghfoooldcbdnaaAlive14
import Derived.Test.YtghfoooldcbdnaaSeen2
set_option linter.unusedVariables false
set_option linter.unusedSimpArgs false
namespace Go.Proofs.Ytghfoooldcbdnaa
open Go.RowKit Go.Proofs.Ytghfoooldcbdnaa.SL Go.Proofs.YtghfoooldcbdnaaW.PrintWords

/-- What a law leaves: true, and what was there. -/
def TrueW (W : World) (e : Ending) (w' : World) : Prop := e = .returned (.bool true) ∧ Below W.heap.size W w'
/-- What reading gives, as it is handed back. -/
def dRes : Option (Int × Int × List Rec) → Int × Int × List Rec × Int
  | some (s, n, l) => (s, n, l, 0)
  | none => (0, 0, [], 140)
theorem dRes_len {xs : List Int} {s n er : Int} {l : List Rec} (h : dRes (rdec xs) = (s, n, l, er)) : l.length ≤ 64 := by
  cases hd : rdec xs with
  | none => rw [hd] at h; simp only [dRes, Prod.mk.injEq] at h; obtain ⟨_, _, rfl, _⟩ := h; simp
  | some p =>
    obtain ⟨s', n', l'⟩ := p
    rw [hd] at h
    simp only [dRes, Prod.mk.injEq] at h
    obtain ⟨rfl, rfl, rfl, _⟩ := h
    exact (batch_facts ((rdec_iff xs _ _ _).1 hd).1).2.2.2.1
theorem dec_as (xs : List Int) (hb : Byt xs) (s n er : Int) (l : List Rec) (h : dRes (rdec xs) = (s, n, l, er)) (A : Option Addr) (c : Nat) (hc : xs.length ≤ c) (hm : xs.length ≤ 140737488355328) (w : World) (hr : Reads w A (bytes xs)) :
    Calls Try.prog 38 #[.slice A xs.length c] w fun e w' => ∃ A' c', e = .returned (.tuple #[.agg #[.int .i64 s, .int .i64 n, .slice A' l.length c'], .int .i64 er]) ∧ Mod w.heap.size w [row (.slice A' l.length c') 53 8 l.length (recs l)] w' := by
  refine (Decode_calls xs A c hc (Nat.le_trans hm (by decide)) w hr hb).mono fun e w' => ?_
  rintro ⟨s', n', l', v, er', rfl, hj, ho⟩
  have ho2 := ho.out
  rw [pdec_rdec xs hb] at ho2
  have he : (s', n', l', er') = (s, n, l, er) := by
    rw [← h]
    rcases ho2 with ⟨h1, rfl, rfl, rfl, rfl⟩ | ⟨h1, rfl⟩ <;> rw [h1] <;> rfl
  simp only [Prod.mk.injEq] at he
  obtain ⟨rfl, rfl, rfl, rfl⟩ := he
  obtain ⟨A', c', rfl, _⟩ := row_slice (hj.rowOwn v)
  exact ⟨A', c', rfl, hj⟩
theorem rdec_as (xs : List Int) (hb : Byt xs) (s n er : Int) (l : List Rec) (h : dRes (rdec xs) = (s, n, l, er)) (A : Option Addr) (c : Nat) (hc : xs.length ≤ c) (hm : xs.length ≤ 140737488355328) (w : World) (hr : Reads w A (bytes xs)) :
    Calls Try.prog 39 #[.slice A xs.length c] w fun e w' => ∃ A' c', e = .returned (.tuple #[.agg #[.int .i64 s, .int .i64 n, .slice A' l.length c'], .int .i64 er]) ∧ Mod w.heap.size w [row (.slice A' l.length c') 54 8 l.length (recs l)] w' := by
  refine (refDecode_calls xs A c hc hm w hr hb).mono fun e w' => ?_
  rintro ⟨s', n', l', v, er', rfl, hj, ho⟩
  have he : (s', n', l', er') = (s, n, l, er) := by
    rw [← h]
    rcases ho.out with ⟨h1, rfl, rfl, rfl, rfl⟩ | ⟨h1, rfl⟩ <;> rw [h1] <;> rfl
  simp only [Prod.mk.injEq] at he
  obtain ⟨rfl, rfl, rfl, rfl⟩ := he
  obtain ⟨A', c', rfl, _⟩ := row_slice (hj.rowOwn v)
  exact ⟨A', c', rfl, hj⟩
set_option maxHeartbeats 4000000 in
set_option maxRecDepth 100000 in
theorem SyncwireReads_walk (W : World) (A : Option Addr) (xs : List Int) (c : Nat) (hr : Reads W A (bytes xs)) (hb : ∀ x ∈ xs, 0 ≤ x ∧ x < 256) (hm : xs.length ≤ 140737488355328) (hc : xs.length ≤ c) :
    Calls Try.prog 8 #[.slice A xs.length c] W (TrueW W) := by
  have HM := Mod.start W
  have HR := Aside0.mk hr
  have HB := Aside0.mk hb
  have HC := Aside0.mk hc
  have HX := Aside0.mk hm
  obtain ⟨⟨s, n, l, er⟩, h⟩ : ∃ p, dRes (rdec xs) = p := ⟨_, rfl⟩
  have hl := dRes_len h
  have H := Aside0.mk h
  have HL : Aside0 (l.length * 80 ≤ 140737488355328) := ⟨by omega⟩
  have HLM : Aside0 (l.length ≤ maxLen) := ⟨Nat.le_trans hl (by decide)⟩
  clear hr hb h hm hc
  go_enter Try.func8, Try.ntmps8
  go_wp2_with (first | (go_at_call 38; refine (dec_as xs HB.out s n er l H.out A c HC.out HX.out _ (HR.out.below HM.below)).mono ?_; rintro e wq ⟨A9, c9, rfl, hj⟩; have HM1 := HM.join hj; clear HM hj; have HM := HM1; clear HM1; simp only [List.cons_append, List.nil_append] at HM) | (go_at_call 39; refine (rdec_as xs HB.out s n er l H.out A c HC.out HX.out _ (HR.out.below HM.below)).mono ?_; rintro e wq ⟨A14, c14, rfl, hj⟩; have HM1 := HM.join hj; clear HM hj; have HM := HM1; clear HM1; simp only [List.cons_append, List.nil_append] at HM) | (first | go_step3 | ((with_reducible apply sl_want); exact rfl) | ((with_reducible apply sl_load HM); exact rfl; infer_instance; infer_instance; (try simp only [Act.put, List.setIfInBounds_toArray, List.set_cons_zero, List.set_cons_succ])) | ((with_reducible apply sl_store HM); exact rfl; (first | exact Ev.tmp rfl | exact Ev.const); infer_instance; infer_instance; infer_instance; clear HM; (try clear wq); intro wq HM; (try simp only [Act.put, List.setIfInBounds_toArray, List.set_cons_zero, List.set_cons_succ])) | ((with_reducible apply sl_loadR); exact rfl; assumption; (try simp only [Act.put, List.setIfInBounds_toArray, List.set_cons_zero, List.set_cons_succ])) | ((with_reducible apply sl_loadH HM); exact rfl; assumption; infer_instance; (try simp only [Act.put, List.setIfInBounds_toArray, List.set_cons_zero, List.set_cons_succ])) | ((with_reducible refine gate_dst (N := 3) rfl ?_); (with_reducible apply sl_alloc HM); infer_instance; clear HM; (try clear wq); intro g3 wq HM; (try simp only [Act.put, List.setIfInBounds_toArray, List.set_cons_zero, List.set_cons_succ])) | ((with_reducible refine gate_dst (N := 5) rfl ?_); (with_reducible apply sl_alloc HM); infer_instance; clear HM; (try clear wq); intro g5 wq HM; (try simp only [Act.put, List.setIfInBounds_toArray, List.set_cons_zero, List.set_cons_succ]))))
  refine wp_drawnS HM [] [(0, 2), (1, 1), (2, 0), (4, 0), (3, 2), (5, 2), (6, 1), (7, 1), (8, 1), (9, 1), (10, 1), (11, 1), (12, 1)] (by kernel_rfl) (by kernel_rfl) (by kernel_rfl) (by kernel_rfl) (fun _ _ d _ _ h => by cases d <;> exact h) ?_; clear HM; (try clear wq); intro wq HM
  repeat (first | ((with_reducible apply t_eff); exact rfl; exact rfl; intro K hK; go_simp; go_at_call 40; (with_reducible refine (alive14_calls _).mono ?_); rintro e wq ⟨rfl, hj⟩; have HM1 := HM.step hj.below; clear HM hj; have HM := HM1; clear HM1; refine hK _ _ _ HM inferInstance ?_; clear hK K; (try simp only [Act.put, List.setIfInBounds_toArray, List.set_cons_zero, List.set_cons_succ])) | ((with_reducible apply t_eff); exact rfl; exact rfl; intro K hK; go_simp; go_at_call 42; (refine (plain_b s n l l.length rfl A9 c9 HL.out _ _ _ _ (fun w h => (ownsRow_reads (h.rowOwn (.slice A9 l.length c9))).1) HM).mono ?_); rintro e wq ⟨A20, c20, rfl, HM1⟩; clear HM; have HM := HM1; clear HM1; refine hK _ _ _ HM inferInstance ?_; clear hK K; (try simp only [Act.put, List.setIfInBounds_toArray, List.set_cons_zero, List.set_cons_succ])) | ((with_reducible apply t_eff); exact rfl; exact rfl; intro K hK; go_simp; go_at_call 41; (refine (same_b s n l l.length rfl A20 A14 c20 c14 HLM.out _ _ _ _ (fun w h => (ownsRow_reads (h.rowOwn (.slice A20 l.length c20))).1) (fun w h => (ownsRow_reads (h.rowOwn (.slice A14 l.length c14))).1) HM).mono ?_); rintro e wq ⟨rfl, HM1⟩; clear HM; have HM := HM1; clear HM1; refine hK _ _ _ HM inferInstance ?_; clear hK K; (try simp only [Act.put, List.setIfInBounds_toArray, List.set_cons_zero, List.set_cons_succ])) | ((with_reducible apply t_move); exact rfl; exact rfl; (first | exact Ev.tmp rfl | exact Ev.const); (try simp only [Act.put, List.setIfInBounds_toArray, List.set_cons_zero, List.set_cons_succ])) | ((with_reducible apply t_assign); exact rfl; exact rfl; (first | exact Ev.tmp rfl | exact Ev.const); (try simp only [Act.put, List.setIfInBounds_toArray, List.set_cons_zero, List.set_cons_succ])) | ((with_reducible apply t_load HM); exact rfl; exact rfl; exact rfl; infer_instance; infer_instance; infer_instance; (try simp only [Act.put, List.setIfInBounds_toArray, List.set_cons_zero, List.set_cons_succ])) | ((with_reducible apply t_loadH HM); exact rfl; exact rfl; exact rfl; assumption; infer_instance; infer_instance; (try simp only [Act.put, List.setIfInBounds_toArray, List.set_cons_zero, List.set_cons_succ])) | ((with_reducible apply t_skip); exact rfl; exact rfl; (try simp only [Act.put, List.setIfInBounds_toArray, List.set_cons_zero, List.set_cons_succ])) | ((with_reducible apply t_skip0 HM); exact rfl; exact rfl; infer_instance; (try simp only [Act.put, List.setIfInBounds_toArray, List.set_cons_zero, List.set_cons_succ])) | ((with_reducible apply t_skip2 HM); exact rfl; exact rfl; infer_instance; (try simp only [Act.put, List.setIfInBounds_toArray, List.set_cons_zero, List.set_cons_succ])) | ((with_reducible apply t_pure); exact rfl; exact rfl; (focus (intro wv; go_simp; (try (go_ints; (try go_simp))); (first | done | rfl | (rw [if_pos (by omega)]; done)))); (try simp only [Act.put, List.setIfInBounds_toArray, List.set_cons_zero, List.set_cons_succ])))
  refine t_nil ?_
  go_wp2_with (first | go_step3 | ((with_reducible apply sl_want); exact rfl) | ((with_reducible apply sl_load HM); exact rfl; infer_instance; infer_instance; (try simp only [Act.put, List.setIfInBounds_toArray, List.set_cons_zero, List.set_cons_succ])) | ((with_reducible apply sl_store HM); exact rfl; (first | exact Ev.tmp rfl | exact Ev.const); infer_instance; infer_instance; infer_instance; clear HM; (try clear wq); intro wq HM; (try simp only [Act.put, List.setIfInBounds_toArray, List.set_cons_zero, List.set_cons_succ])) | ((with_reducible apply sl_loadR); exact rfl; assumption; (try simp only [Act.put, List.setIfInBounds_toArray, List.set_cons_zero, List.set_cons_succ])) | ((with_reducible apply sl_loadH HM); exact rfl; assumption; infer_instance; (try simp only [Act.put, List.setIfInBounds_toArray, List.set_cons_zero, List.set_cons_succ])) | ((with_reducible refine gate_dst (N := 3) rfl ?_); (with_reducible apply sl_alloc HM); infer_instance; clear HM; (try clear wq); intro g3 wq HM; (try simp only [Act.put, List.setIfInBounds_toArray, List.set_cons_zero, List.set_cons_succ])) | ((with_reducible refine gate_dst (N := 5) rfl ?_); (with_reducible apply sl_alloc HM); infer_instance; clear HM; (try clear wq); intro g5 wq HM; (try simp only [Act.put, List.setIfInBounds_toArray, List.set_cons_zero, List.set_cons_succ])))
  exact sl_ret1 rfl (vals_tmp rfl .nil) (show TrueW W _ _ from ⟨rfl, HM.below⟩)
end Go.Proofs.Ytghfoooldcbdnaa
