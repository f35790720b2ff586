/-
  alive OF THE LAWS OF LAYER 14; the contracts of the layer in the laws' words.
-/
import Derived.Test.YtghfoooldcbdnaaRefD
set_option linter.unusedVariables false
set_option linter.unusedSimpArgs false
namespace Go.Proofs.Ytghfoooldcbdnaa
open Go.RowKit Go.Proofs.Ytghfoooldcbdnaa.SL Go.Proofs.YtghfoooldcbdnaaW.PrintWords

theorem own_b (s n : Int) (l : List Rec) (m : Nat) (hm : l.length = m) (A : Option Addr) (c : Nat) (hl : m * 80 ≤ 140737488355328) (B : Nat) (w0 w : World) (H : List As) (hr : ∀ w, Mod B w0 H w → Reads w A (recs l)) (HM : Mod B w0 H w) :
    Calls Try.prog 46 #[.agg #[.int .i64 s, .int .i64 n, .slice A m c]] w fun e w' => ∃ A' c', e = .returned (.agg #[.int .i64 s, .int .i64 n, .slice A' m c']) ∧ Mod B w0 (row (.slice A' m c') 53 8 m (recs l) :: H) w' := by
  subst hm
  refine (own14_calls s n l A c hl B w0 w H hr HM).mono fun e w' => ?_
  rintro ⟨v, rfl, hj⟩
  obtain ⟨A', c', rfl, _⟩ := row_slice (hj.rowOwn v)
  exact ⟨A', c', rfl, hj⟩
theorem plain_b (s n : Int) (l : List Rec) (m : Nat) (hm : l.length = m) (A : Option Addr) (c : Nat) (hl : m * 80 ≤ 140737488355328) (B : Nat) (w0 w : World) (H : List As) (hr : ∀ w, Mod B w0 H w → Reads w A (recs l)) (HM : Mod B w0 H w) :
    Calls Try.prog 42 #[.agg #[.int .i64 s, .int .i64 n, .slice A m c]] w fun e w' => ∃ A' c', e = .returned (.agg #[.int .i64 s, .int .i64 n, .slice A' m c']) ∧ Mod B w0 (row (.slice A' m c') 54 8 m (recs l) :: H) w' := by
  subst hm
  refine (plain14_calls s n l A c hl B w0 w H hr HM).mono fun e w' => ?_
  rintro ⟨v, rfl, hj⟩
  obtain ⟨A', c', rfl, _⟩ := row_slice (hj.rowOwn v)
  exact ⟨A', c', rfl, hj⟩
theorem same_b (s n : Int) (l : List Rec) (m : Nat) (hm : l.length = m) (A C : Option Addr) (c d : Nat) (hl : m ≤ maxLen) (B : Nat) (w0 w : World) (H : List As) (hA : ∀ w, Mod B w0 H w → Reads w A (recs l)) (hC : ∀ w, Mod B w0 H w → Reads w C (recs l)) (HM : Mod B w0 H w) :
    Calls Try.prog 41 #[.agg #[.int .i64 s, .int .i64 n, .slice A m c], .agg #[.int .i64 s, .int .i64 n, .slice C m d]] w fun e w' => e = .returned (.bool true) ∧ Mod B w0 H w' := by
  subst hm
  exact Same_calls s n l A C c d hl B w0 w H hA hC HM
theorem enc_b (s n : Int) (l : List Rec) (m k : Nat) (hm : l.length = m) (h : batchOk s n l = true) (hk : (batchB s n l).length = k) (hl : Fits l) (A : Option Addr) (c : Nat) (w : World) (hr : Reads w A (recs l)) :
    Calls Try.prog 35 #[.agg #[.int .i64 s, .int .i64 n, .slice A m c]] w fun e w' => ∃ A' c', e = .returned (.tuple #[.slice A' k c', .int .i64 0]) ∧ k ≤ c' ∧ Mod w.heap.size w [row (.slice A' k c') 5 1 k (bytes (batchB s n l))] w' := by
  subst hm
  have hml : l.length ≤ maxLen := Nat.le_trans (batch_facts h).2.2.2.1 (by decide)
  refine (Encode_calls s n l hl A c hml w hr).mono fun e w' => ?_
  rintro ⟨v, rfl, hj⟩
  have e2 : encB s n l = batchB s n l := by unfold encB; rw [h]; rfl
  rw [e2, hk] at hj
  obtain ⟨A', c', rfl, hc⟩ := row_slice (hj.rowOwn v)
  exact ⟨A', c', by rw [h]; rfl, hc, hj⟩
theorem dec_b (s n : Int) (l : List Rec) (m k : Nat) (hm : l.length = m) (h : batchOk s n l = true) (hk : (batchB s n l).length = k) (A : Option Addr) (c : Nat) (hc : k ≤ c) (w : World) (hr : Reads w A (bytes (batchB s n l))) :
    Calls Try.prog 38 #[.slice A k c] w fun e w' => ∃ A' c', e = .returned (.tuple #[.agg #[.int .i64 s, .int .i64 n, .slice A' m c'], .int .i64 0]) ∧ Mod w.heap.size w [row (.slice A' m c') 53 8 m (recs l)] w' := by
  subst hk
  refine (Decode_calls (batchB s n l) A c hc (Nat.le_trans (batch_facts h).2.2.2.2.2 (by decide)) w hr (Byt.batch s n l)).mono fun e w' => ?_
  rintro ⟨s', n', l', v, er, rfl, hj, ho⟩
  have hp := (pdec_iff (batchB s n l) (Byt.batch s n l) s n l).2 ⟨h, rfl⟩
  rcases ho.out with ⟨h1, _⟩ | ⟨h1, rfl⟩
  · rw [hp] at h1; cases h1
  · rw [hp] at h1
    simp only [Option.some.injEq, Prod.mk.injEq] at h1
    obtain ⟨rfl, rfl, rfl⟩ := h1
    obtain ⟨A', c', rfl, _⟩ := row_slice (hj.rowOwn v)
    subst hm
    exact ⟨A', c', rfl, hj⟩
theorem ans_b (s n f : Int) (g : Bool) (h : ansOk s n = true) (hf0 : 0 ≤ f) (hf1 : f ≤ 18446744073709551615) (w : World) :
    Calls Try.prog 48 #[.agg #[.int .i64 s, .int .i64 n, .bool g, .int .u64 f]] w fun e w' => ∃ A' c', e = .returned (.tuple #[.slice A' 27 c', .int .i64 0]) ∧ 27 ≤ c' ∧ Mod w.heap.size w [row (.slice A' 27 c') 5 1 27 (bytes (ansB s n g f))] w' := by
  refine (EncodeAnswer_calls s n f g hf0 hf1 w).mono fun e w' => ?_
  rintro ⟨v, rfl, hj⟩
  have e2 : ansE s n g f = ansB s n g f := by unfold ansE; rw [h]; rfl
  rw [e2, ansB_len] at hj
  obtain ⟨A', c', rfl, hc⟩ := row_slice (hj.rowOwn v)
  exact ⟨A', c', by rw [h]; rfl, hc, hj⟩

def rec0 : Rec := ⟨6, ⟨#[10, 0, 0, 1]⟩, ⟨#[10, 0, 0, 2]⟩, 1, 2, 3, 2, 9⟩
theorem rec0_ok : batchOk 1 1 [rec0] = true := by kernel_rfl
theorem rec0_len : (batchB 1 1 [rec0]).length = 37 := by kernel_rfl
theorem rec0_fits : Fits [rec0] := by intro r hr; simp at hr; subst hr; exact ⟨by decide, by decide⟩
theorem ans0_26 : (bytes (ansB 1 2 true 3))[26]? = some (.int .u8 3) := by rfl
theorem Mod.rowReads {B : Nat} {w0 w : World} {H R : List As} {A : Option Addr} {m c n : Nat} {e : TypeId} {sz : Nat} {xs : List Value} (h : Mod B w0 H w) [s : Row H (.slice A m c) e sz n xs R] : Reads w A xs := (ownsRow_reads (SL.Mod.rowOwn h (.slice A m c))).1

theorem ans0_ok : ansOk 1 2 = true := by simp [ansOk, inB]
theorem ans0 (w : World) : Calls Try.prog 48 #[.agg #[.int .i64 1, .int .i64 2, .bool true, .int .u64 3]] w fun e w' => ∃ A' c', e = .returned (.tuple #[.slice A' 27 c', .int .i64 0]) ∧ 27 ≤ c' ∧ Mod w.heap.size w [row (.slice A' 27 c') 5 1 27 (bytes (ansB 1 2 true 3))] w' := ans_b 1 2 3 true ans0_ok (by omega) (by omega) w
set_option maxHeartbeats 8000000 in
set_option maxRecDepth 100000 in
theorem alive14_calls (w : World) : Calls Try.prog 40 #[] w fun e w' => e = .returned (.bool true) ∧ Mod w.heap.size w [] w' := by
  have HM := Mod.start w
  go_enter Try.func40, Try.ntmps40
  go_wp2_with (first | (go_at_call 46; have HM1 := HM.litRow g12 8 1 rfl (by decide); clear HM; have HM := HM1; clear HM1; have HC2 := own_b 1 1 [rec0] 1 rfl _ 1 (by decide) _ _ _ _ (fun w h => (ownsRow_reads (h.rowOwn (.slice (some ⟨g12, 0, none⟩) 1 1))).1) HM; refine HC2.mono ?_; clear HC2; rintro e wq ⟨A16, c16, rfl, HM1⟩; clear HM; have HM := HM1; clear HM1) | (go_at_call 35; have HC2 := enc_b 1 1 [rec0] 1 37 rfl rec0_ok rec0_len rec0_fits A16 c16 _ (ownsRow_reads (HM.rowOwn (.slice A16 1 c16))).1; refine HC2.mono ?_; clear HC2; rintro e wq ⟨A17, c17, rfl, hc17, hj⟩; have HM1 := HM.join hj; clear HM hj; have HM := HM1; clear HM1; simp only [List.cons_append, List.nil_append] at HM) | (go_at_call 38; have HC2 := dec_b 1 1 [rec0] 1 37 rfl rec0_ok rec0_len A17 c17 hc17 _ (ownsRow_reads (HM.rowOwn (.slice A17 37 c17))).1; refine HC2.mono ?_; clear HC2; rintro e wq ⟨A22, c22, rfl, hj⟩; have HM1 := HM.join hj; clear HM hj; have HM := HM1; clear HM1; simp only [List.cons_append, List.nil_append] at HM) | (go_at_call 48; refine (ans0 _).mono ?_; rintro e wq ⟨A27, c27, rfl, hc27, hj⟩; have HM1 := HM.join hj; clear HM hj; have HM := HM1; clear HM1; simp only [List.cons_append, List.nil_append] at HM) | (first | go_step3 | ((with_reducible apply sl_want); exact rfl) | ((with_reducible apply sl_load HM); exact rfl; infer_instance; infer_instance; (try simp only [Act.put, List.setIfInBounds_toArray, List.set_cons_zero, List.set_cons_succ])) | ((with_reducible apply sl_store HM); exact rfl; (first | exact Ev.tmp rfl | exact Ev.const); infer_instance; infer_instance; infer_instance; clear HM; (try clear wq); intro wq HM; (try simp only [Act.put, List.setIfInBounds_toArray, List.set_cons_zero, List.set_cons_succ])) | ((with_reducible apply sl_loadR); exact rfl; assumption; (try simp only [Act.put, List.setIfInBounds_toArray, List.set_cons_zero, List.set_cons_succ])) | ((with_reducible apply sl_loadH HM); exact rfl; assumption; infer_instance; (try simp only [Act.put, List.setIfInBounds_toArray, List.set_cons_zero, List.set_cons_succ])) | ((with_reducible refine gate_dst (N := 1) rfl ?_); (with_reducible apply sl_alloc HM); infer_instance; clear HM; (try clear wq); intro g1 wq HM; (try simp only [Act.put, List.setIfInBounds_toArray, List.set_cons_zero, List.set_cons_succ])) | ((with_reducible refine gate_dst (N := 12) rfl ?_); (with_reducible apply sl_lit HM); (focus (go_simp; (try rfl); done)); clear HM; (try clear wq); intro g12 wq HM; (try simp only [Act.put, List.setIfInBounds_toArray, List.set_cons_zero, List.set_cons_succ])) | ((with_reducible refine gate_dst (N := 2) rfl ?_); (with_reducible apply sl_alloc HM); infer_instance; clear HM; (try clear wq); intro g2 wq HM; (try simp only [Act.put, List.setIfInBounds_toArray, List.set_cons_zero, List.set_cons_succ])) | ((with_reducible refine gate_dst (N := 5) rfl ?_); (with_reducible apply sl_alloc HM); infer_instance; clear HM; (try clear wq); intro g5 wq HM; (try simp only [Act.put, List.setIfInBounds_toArray, List.set_cons_zero, List.set_cons_succ]))))
  obtain ⟨ad27, rfl⟩ : ∃ ad, A27 = some ad := (ownsRow_reads (HM.rowOwn (.slice A27 27 c27))).1.addr (by rw [List.length_map, ansB_len]; omega)
  have hld : Aside0 (∀ w', Mod w.heap.size w [row (.slice (some ad27) 27 c27) 5 1 27 (bytes (ansB 1 2 true 3))] w' → Sem.run Try.prog (Instr.loadAt 5 (.pointer (some (ad27.add 26)))) w' = .ok (.int .u8 3) w') := ⟨fun w' h => load_one (ownsRow_reads (h.rowOwn (.slice (some ad27) 27 c27))).1 26 ans0_26⟩
  refine wp_drawnS HM [] [(0, 1), (1, 1), (2, 1), (3, 1), (4, 1), (5, 1), (6, 1), (7, 1), (8, 1), (9, 1), (10, 1), (11, 1), (12, 0), (14, 0), (13, 2), (15, 2), (16, 1), (17, 1), (18, 1), (19, 1), (20, 1), (21, 1), (22, 1), (23, 1), (24, 1), (25, 1), (26, 1), (27, 1), (28, 1), (29, 0), (30, 1), (31, 1), (32, 1)] (by kernel_rfl) (by kernel_rfl) (by kernel_rfl) (by kernel_rfl) (fun _ _ d _ _ h => by cases d <;> exact h) ?_; clear HM; (try clear wq); intro wq HM
  repeat (first | ((with_reducible apply t_eff); exact rfl; exact rfl; intro K hK; go_simp; go_at_call 42; (refine (plain_b 1 1 [rec0] 1 rfl A22 c22 (by decide) _ _ _ _ (fun w h => (ownsRow_reads (h.rowOwn (.slice A22 1 c22))).1) HM).mono ?_); rintro e wq ⟨A43, c43, rfl, HM1⟩; clear HM; have HM := HM1; clear HM1; refine hK _ _ _ HM inferInstance ?_; clear hK K; (try simp only [Act.put, List.setIfInBounds_toArray, List.set_cons_zero, List.set_cons_succ])) | ((with_reducible apply t_eff); exact rfl; exact rfl; intro K hK; go_simp; go_at_call 41; (refine (same_b 1 1 [rec0] 1 rfl A43 (some ⟨g12, 0, none⟩) c43 1 (by decide) _ _ _ _ (fun w h => (ownsRow_reads (h.rowOwn (.slice A43 1 c43))).1) (fun w h => (ownsRow_reads (h.rowOwn (.slice (some ⟨g12, 0, none⟩) 1 1))).1) HM).mono ?_); rintro e wq ⟨rfl, HM1⟩; clear HM; have HM := HM1; clear HM1; refine hK _ _ _ HM inferInstance ?_; clear hK K; (try simp only [Act.put, List.setIfInBounds_toArray, List.set_cons_zero, List.set_cons_succ])) | ((with_reducible apply t_move); exact rfl; exact rfl; (first | exact Ev.tmp rfl | exact Ev.const); (try simp only [Act.put, List.setIfInBounds_toArray, List.set_cons_zero, List.set_cons_succ])) | ((with_reducible apply t_assign); exact rfl; exact rfl; (first | exact Ev.tmp rfl | exact Ev.const); (try simp only [Act.put, List.setIfInBounds_toArray, List.set_cons_zero, List.set_cons_succ])) | ((with_reducible apply t_load HM); exact rfl; exact rfl; exact rfl; infer_instance; infer_instance; infer_instance; (try simp only [Act.put, List.setIfInBounds_toArray, List.set_cons_zero, List.set_cons_succ])) | ((with_reducible apply t_loadH HM); exact rfl; exact rfl; exact rfl; assumption; infer_instance; infer_instance; (try simp only [Act.put, List.setIfInBounds_toArray, List.set_cons_zero, List.set_cons_succ])) | ((with_reducible apply t_skip); exact rfl; exact rfl; (try simp only [Act.put, List.setIfInBounds_toArray, List.set_cons_zero, List.set_cons_succ])) | ((with_reducible apply t_skip0 HM); exact rfl; exact rfl; infer_instance; (try simp only [Act.put, List.setIfInBounds_toArray, List.set_cons_zero, List.set_cons_succ])) | ((with_reducible apply t_skip2 HM); exact rfl; exact rfl; infer_instance; (try simp only [Act.put, List.setIfInBounds_toArray, List.set_cons_zero, List.set_cons_succ])) | ((with_reducible apply t_pure); exact rfl; exact rfl; (focus (intro wv; go_simp; (try (go_ints; (try go_simp))); (first | done | rfl | (rw [if_pos (by omega)]; done)))); (try simp only [Act.put, List.setIfInBounds_toArray, List.set_cons_zero, List.set_cons_succ])))
  refine t_nil ?_
  go_wp2_with (first | go_step3 | ((with_reducible apply sl_want); exact rfl) | ((with_reducible apply sl_load HM); exact rfl; infer_instance; infer_instance; (try simp only [Act.put, List.setIfInBounds_toArray, List.set_cons_zero, List.set_cons_succ])) | ((with_reducible apply sl_store HM); exact rfl; (first | exact Ev.tmp rfl | exact Ev.const); infer_instance; infer_instance; infer_instance; clear HM; (try clear wq); intro wq HM; (try simp only [Act.put, List.setIfInBounds_toArray, List.set_cons_zero, List.set_cons_succ])) | ((with_reducible apply sl_loadR); exact rfl; assumption; (try simp only [Act.put, List.setIfInBounds_toArray, List.set_cons_zero, List.set_cons_succ])) | ((with_reducible apply sl_loadH HM); exact rfl; assumption; infer_instance; (try simp only [Act.put, List.setIfInBounds_toArray, List.set_cons_zero, List.set_cons_succ])) | ((with_reducible refine gate_dst (N := 1) rfl ?_); (with_reducible apply sl_alloc HM); infer_instance; clear HM; (try clear wq); intro g1 wq HM; (try simp only [Act.put, List.setIfInBounds_toArray, List.set_cons_zero, List.set_cons_succ])) | ((with_reducible refine gate_dst (N := 12) rfl ?_); (with_reducible apply sl_lit HM); (focus (go_simp; (try rfl); done)); clear HM; (try clear wq); intro g12 wq HM; (try simp only [Act.put, List.setIfInBounds_toArray, List.set_cons_zero, List.set_cons_succ])) | ((with_reducible refine gate_dst (N := 2) rfl ?_); (with_reducible apply sl_alloc HM); infer_instance; clear HM; (try clear wq); intro g2 wq HM; (try simp only [Act.put, List.setIfInBounds_toArray, List.set_cons_zero, List.set_cons_succ])) | ((with_reducible refine gate_dst (N := 5) rfl ?_); (with_reducible apply sl_alloc HM); infer_instance; clear HM; (try clear wq); intro g5 wq HM; (try simp only [Act.put, List.setIfInBounds_toArray, List.set_cons_zero, List.set_cons_succ])))
  exact sl_ret1 rfl (vals_tmp rfl .nil) ⟨rfl, HM.sub⟩
end Go.Proofs.Ytghfoooldcbdnaa
