/-
  THE SENDER OF PACKAGE syncout: room; Take's parts.
-/
import Derived.Test.YtghfoooldcbdnaaSnd2
set_option linter.unusedVariables false
set_option linter.unusedSimpArgs false
namespace Go.Proofs.Ytghfoooldcbdnaa
open Go.RowKit Go.Proofs.Ytghfoooldcbdnaa.SL Go.Proofs.YtghfoooldcbdnaaW.PrintWords

def SS.room (S : SS) : Bool := match S.rg[0]? with
  | none => true
  | some x => decide (S.rg.length < 16) && decide (S.nx - x.n < 16)
theorem sent_at {s : Int} {rg : List Sn} {k : Nat} {x : Sn} (hx : rg[k]? = some x) (o : Nat) (ho : o < 4) : (sents s rg)[k * 4 + o]? = (x.cells s)[o]? := by
  have h1 := flat_seg (sn_len s) rg k x hx
  rw [← h1, List.getElem?_take_of_lt ho, List.getElem?_drop]
set_option maxHeartbeats 4000000 in
set_option maxRecDepth 100000 in
theorem room_calls (g : Nat) (S : SS) (hq : S.rg.length ≤ 1000000) (hn : ∀ x, S.rg[0]? = some x → 0 ≤ x.n ∧ x.n ≤ 4611686018427387905) (hx : 0 ≤ S.nx ∧ S.nx ≤ 4611686018427387905) (B : Nat) (w0 w : World) (H : List As) (HM : SL.Mod B w0 (snd g S :: H) w) :
    Calls Try.prog 70 #[.pointer (some ⟨g, 0, none⟩)] w fun e w' => e = .returned (.bool S.room) ∧ SL.Mod B w0 (snd g S :: H) w' := by
  obtain ⟨gm, AQ, cQ, AR, cR, HM1⟩ := Mod.openSnd HM
  clear HM
  have HM := HM1
  clear HM1
  cases h0 : S.rg[0]? with
  | none =>
    have E : Aside0 (S.room = true) := ⟨by unfold SS.room; rw [h0]⟩
    have hl : S.rg.length = 0 := by rw [List.getElem?_eq_none_iff] at h0; omega
    have hz : ((S.rg.length : Int) == 0) = true := by rw [hl]; rfl
    have hz2 : (S.rg.length == 0) = true := by rw [hl]; rfl
    clear h0 hl hn
    go_enter Try.func70, Try.ntmps70
    go_wp2_with (first | go_step3 | ((with_reducible apply sl_want); exact rfl) | ((with_reducible apply sl_load HM); exact rfl; infer_instance; infer_instance; (try simp only [Act.put, List.setIfInBounds_toArray, List.set_cons_zero, List.set_cons_succ])) | ((with_reducible apply sl_store HM); exact rfl; (first | exact Ev.tmp rfl | exact Ev.const); infer_instance; infer_instance; infer_instance; clear HM; (try clear wq); intro wq HM; (try simp only [Act.put, List.setIfInBounds_toArray, List.set_cons_zero, List.set_cons_succ])) | ((with_reducible apply sl_loadR); exact rfl; assumption; (try simp only [Act.put, List.setIfInBounds_toArray, List.set_cons_zero, List.set_cons_succ])) | ((with_reducible apply sl_loadH HM); exact rfl; assumption; infer_instance; (try simp only [Act.put, List.setIfInBounds_toArray, List.set_cons_zero, List.set_cons_succ])))
    refine wp_drawnS HM [] [(0, 1), (1, 1), (2, 1), (3, 0), (4, 1), (5, 1), (6, 1), (7, 1), (8, 1), (9, 1), (10, 0), (11, 1), (12, 1), (13, 1), (14, 1), (15, 1), (16, 1), (17, 0), (18, 1), (19, 1), (20, 1), (21, 0), (22, 1), (23, 1), (24, 1), (25, 0), (26, 1), (27, 1), (28, 1), (29, 1), (30, 1)] (by kernel_rfl) (by kernel_rfl) (by kernel_rfl) (by kernel_rfl) (fun _ _ d _ _ h => by cases d <;> exact h) ?_; clear HM; (try clear wq); intro wq HM
    repeat (first | ((with_reducible apply t_move); exact rfl; exact rfl; (first | exact Ev.tmp rfl | exact Ev.const); (try simp only [Act.put, List.setIfInBounds_toArray, List.set_cons_zero, List.set_cons_succ])) | ((with_reducible apply t_assign); exact rfl; exact rfl; (first | exact Ev.tmp rfl | exact Ev.const); (try simp only [Act.put, List.setIfInBounds_toArray, List.set_cons_zero, List.set_cons_succ])) | ((with_reducible apply t_load HM); exact rfl; exact rfl; exact rfl; infer_instance; infer_instance; infer_instance; (try simp only [Act.put, List.setIfInBounds_toArray, List.set_cons_zero, List.set_cons_succ])) | ((with_reducible apply t_loadH HM); exact rfl; exact rfl; exact rfl; assumption; infer_instance; infer_instance; (try simp only [Act.put, List.setIfInBounds_toArray, List.set_cons_zero, List.set_cons_succ])) | ((with_reducible apply t_skip); exact rfl; exact rfl; (try simp only [Act.put, List.setIfInBounds_toArray, List.set_cons_zero, List.set_cons_succ])) | ((with_reducible apply t_skip0 HM); exact rfl; exact rfl; infer_instance; (try simp only [Act.put, List.setIfInBounds_toArray, List.set_cons_zero, List.set_cons_succ])) | ((with_reducible apply t_skip2 HM); exact rfl; exact rfl; infer_instance; (try simp only [Act.put, List.setIfInBounds_toArray, List.set_cons_zero, List.set_cons_succ])) | ((with_reducible apply t_pure); exact rfl; exact rfl; (focus (intro wv; go_simp; (try (go_ints; (try go_simp))); (first | done | rfl | (rw [if_pos (by omega)]; done)))); (try simp only [Act.put, List.setIfInBounds_toArray, List.set_cons_zero, List.set_cons_succ])))
    refine t_nil ?_
    go_wp2_with (fail)
    exact sl_ret1 rfl (vals_tmp rfl .nil) ⟨by rw [E.out], (Mod.closeSnd (gm := gm) (vQ := .slice AQ S.q.length cQ) (vR := .slice AR S.rg.length cR) HM.sub)⟩
  | some x =>
    have E : Aside0 (S.room = (decide (S.rg.length < 16) && decide (S.nx - x.n < 16))) := ⟨by unfold SS.room; rw [h0]⟩
    have hl : 0 < S.rg.length := (List.getElem?_eq_some_iff.1 h0).1
    have hz : ((S.rg.length : Int) == 0) = false := by rw [beq_eq_false_iff_ne]; omega
    obtain ⟨ad, rfl⟩ : ∃ ad, AR = some ad := (ownsRow_reads (HM.rowOwn (.slice AR S.rg.length cR))).1.addr (by rw [flat_len (sn_len S.s)]; omega)
    have hld : Aside0 (∀ w', SL.Mod B w0 [row (.slice (some ad) S.rg.length cR) 140 4 S.rg.length (sents S.s S.rg)] w' → Sem.run Try.prog (Instr.loadAt 3 (.pointer (some (ad.add 1)))) w' = .ok (.int .i64 x.n) w') := ⟨fun w' h => load_one (ownsRow_reads (h.rowOwn (.slice (some ad) S.rg.length cR))).1 1 (by have := sent_at (s := S.s) h0 1 (by omega); simpa using this)⟩
    obtain ⟨n0, n1⟩ := hn x h0
    obtain ⟨x0, x1⟩ := hx
    by_cases h16 : S.rg.length < 16
    · have hd : decide ((S.rg.length : Int) < 16) = true := decide_eq_true (by omega)
      have E1 : Aside0 (decide (S.rg.length < 16) = true) := ⟨decide_eq_true h16⟩
      clear h0
      go_enter Try.func70, Try.ntmps70
      go_wp2_with (first | go_step3 | ((with_reducible apply sl_want); exact rfl) | ((with_reducible apply sl_load HM); exact rfl; infer_instance; infer_instance; (try simp only [Act.put, List.setIfInBounds_toArray, List.set_cons_zero, List.set_cons_succ])) | ((with_reducible apply sl_store HM); exact rfl; (first | exact Ev.tmp rfl | exact Ev.const); infer_instance; infer_instance; infer_instance; clear HM; (try clear wq); intro wq HM; (try simp only [Act.put, List.setIfInBounds_toArray, List.set_cons_zero, List.set_cons_succ])) | ((with_reducible apply sl_loadR); exact rfl; assumption; (try simp only [Act.put, List.setIfInBounds_toArray, List.set_cons_zero, List.set_cons_succ])) | ((with_reducible apply sl_loadH HM); exact rfl; assumption; infer_instance; (try simp only [Act.put, List.setIfInBounds_toArray, List.set_cons_zero, List.set_cons_succ])))
      refine wp_drawnS HM [] [(0, 1), (1, 1), (2, 1), (3, 0), (4, 1), (5, 1), (6, 1), (7, 1), (8, 1), (9, 1), (10, 0), (11, 1), (12, 1), (13, 1), (14, 1), (15, 1), (16, 1), (17, 0), (18, 1), (19, 1), (20, 1), (21, 0), (22, 1), (23, 1), (24, 1), (25, 0), (26, 1), (27, 1), (28, 1), (29, 1), (30, 1)] (by kernel_rfl) (by kernel_rfl) (by kernel_rfl) (by kernel_rfl) (fun _ _ d _ _ h => by cases d <;> exact h) ?_; clear HM; (try clear wq); intro wq HM
      repeat (first | ((with_reducible apply t_move); exact rfl; exact rfl; (first | exact Ev.tmp rfl | exact Ev.const); (try simp only [Act.put, List.setIfInBounds_toArray, List.set_cons_zero, List.set_cons_succ])) | ((with_reducible apply t_assign); exact rfl; exact rfl; (first | exact Ev.tmp rfl | exact Ev.const); (try simp only [Act.put, List.setIfInBounds_toArray, List.set_cons_zero, List.set_cons_succ])) | ((with_reducible apply t_load HM); exact rfl; exact rfl; exact rfl; infer_instance; infer_instance; infer_instance; (try simp only [Act.put, List.setIfInBounds_toArray, List.set_cons_zero, List.set_cons_succ])) | ((with_reducible apply t_loadH HM); exact rfl; exact rfl; exact rfl; assumption; infer_instance; infer_instance; (try simp only [Act.put, List.setIfInBounds_toArray, List.set_cons_zero, List.set_cons_succ])) | ((with_reducible apply t_skip); exact rfl; exact rfl; (try simp only [Act.put, List.setIfInBounds_toArray, List.set_cons_zero, List.set_cons_succ])) | ((with_reducible apply t_skip0 HM); exact rfl; exact rfl; infer_instance; (try simp only [Act.put, List.setIfInBounds_toArray, List.set_cons_zero, List.set_cons_succ])) | ((with_reducible apply t_skip2 HM); exact rfl; exact rfl; infer_instance; (try simp only [Act.put, List.setIfInBounds_toArray, List.set_cons_zero, List.set_cons_succ])) | ((with_reducible apply t_pure); exact rfl; exact rfl; (focus (intro wv; go_simp; (try (go_ints; (try go_simp))); (first | done | rfl | (rw [if_pos (by omega)]; done)))); (try simp only [Act.put, List.setIfInBounds_toArray, List.set_cons_zero, List.set_cons_succ])))
      refine t_nil ?_
      go_wp2_with (fail)
      refine sl_ret1 rfl (vals_tmp rfl .nil) ⟨?_, (Mod.closeSnd (gm := gm) (vQ := .slice AQ S.q.length cQ) (vR := .slice (some ad) S.rg.length cR) HM.sub)⟩
      rw [E.out, E1.out, Bool.true_and]
    · have hd : decide ((S.rg.length : Int) < 16) = false := decide_eq_false (by omega)
      have E1 : Aside0 (decide (S.rg.length < 16) = false) := ⟨decide_eq_false h16⟩
      clear h0
      go_enter Try.func70, Try.ntmps70
      go_wp2_with (first | go_step3 | ((with_reducible apply sl_want); exact rfl) | ((with_reducible apply sl_load HM); exact rfl; infer_instance; infer_instance; (try simp only [Act.put, List.setIfInBounds_toArray, List.set_cons_zero, List.set_cons_succ])) | ((with_reducible apply sl_store HM); exact rfl; (first | exact Ev.tmp rfl | exact Ev.const); infer_instance; infer_instance; infer_instance; clear HM; (try clear wq); intro wq HM; (try simp only [Act.put, List.setIfInBounds_toArray, List.set_cons_zero, List.set_cons_succ])) | ((with_reducible apply sl_loadR); exact rfl; assumption; (try simp only [Act.put, List.setIfInBounds_toArray, List.set_cons_zero, List.set_cons_succ])) | ((with_reducible apply sl_loadH HM); exact rfl; assumption; infer_instance; (try simp only [Act.put, List.setIfInBounds_toArray, List.set_cons_zero, List.set_cons_succ])))
      refine wp_drawnS HM [] [(0, 1), (1, 1), (2, 1), (3, 0), (4, 1), (5, 1), (6, 1), (7, 1), (8, 1), (9, 1), (10, 0), (11, 1), (12, 1), (13, 1), (14, 1), (15, 1), (16, 1), (17, 0), (18, 1), (19, 1), (20, 1), (21, 0), (22, 1), (23, 1), (24, 1), (25, 0), (26, 1), (27, 1), (28, 1), (29, 1), (30, 1)] (by kernel_rfl) (by kernel_rfl) (by kernel_rfl) (by kernel_rfl) (fun _ _ d _ _ h => by cases d <;> exact h) ?_; clear HM; (try clear wq); intro wq HM
      repeat (first | ((with_reducible apply t_move); exact rfl; exact rfl; (first | exact Ev.tmp rfl | exact Ev.const); (try simp only [Act.put, List.setIfInBounds_toArray, List.set_cons_zero, List.set_cons_succ])) | ((with_reducible apply t_assign); exact rfl; exact rfl; (first | exact Ev.tmp rfl | exact Ev.const); (try simp only [Act.put, List.setIfInBounds_toArray, List.set_cons_zero, List.set_cons_succ])) | ((with_reducible apply t_load HM); exact rfl; exact rfl; exact rfl; infer_instance; infer_instance; infer_instance; (try simp only [Act.put, List.setIfInBounds_toArray, List.set_cons_zero, List.set_cons_succ])) | ((with_reducible apply t_loadH HM); exact rfl; exact rfl; exact rfl; assumption; infer_instance; infer_instance; (try simp only [Act.put, List.setIfInBounds_toArray, List.set_cons_zero, List.set_cons_succ])) | ((with_reducible apply t_skip); exact rfl; exact rfl; (try simp only [Act.put, List.setIfInBounds_toArray, List.set_cons_zero, List.set_cons_succ])) | ((with_reducible apply t_skip0 HM); exact rfl; exact rfl; infer_instance; (try simp only [Act.put, List.setIfInBounds_toArray, List.set_cons_zero, List.set_cons_succ])) | ((with_reducible apply t_skip2 HM); exact rfl; exact rfl; infer_instance; (try simp only [Act.put, List.setIfInBounds_toArray, List.set_cons_zero, List.set_cons_succ])) | ((with_reducible apply t_pure); exact rfl; exact rfl; (focus (intro wv; go_simp; (try (go_ints; (try go_simp))); (first | done | rfl | (rw [if_pos (by omega)]; done)))); (try simp only [Act.put, List.setIfInBounds_toArray, List.set_cons_zero, List.set_cons_succ])))
      refine t_nil ?_
      go_wp2_with (fail)
      refine sl_ret1 rfl (vals_tmp rfl .nil) ⟨?_, (Mod.closeSnd (gm := gm) (vQ := .slice AQ S.q.length cQ) (vR := .slice (some ad) S.rg.length cR) HM.sub)⟩
      rw [E.out, E1.out, Bool.false_and]

/-- Where a batch stands among those that wait. -/
def idxR (rg : List Sn) (n : Int) : Option Nat := rg.findIdx? (fun x => decide (x.n = n))
theorem idxR_none {q : List Sn} {n : Int} (h : q.all (fun x => !decide (x.n = n)) = true) : idxR q n = none := by
  unfold idxR
  rw [List.findIdx?_eq_none_iff]
  intro x hx
  have := List.all_eq_true.1 h x hx
  simpa using this
theorem idxR_at {q : List Sn} {n : Int} {k : Nat} {x : Sn} (h : (q.take k).all (fun x => !decide (x.n = n)) = true) (hk : q[k]? = some x) (hx : x.n = n) : idxR q n = some k := by
  unfold idxR
  rw [List.findIdx?_eq_some_iff_getElem]
  have hlt : k < q.length := (List.getElem?_eq_some_iff.1 hk).1
  refine ⟨hlt, ?_, fun j hj => ?_⟩
  · rw [List.getElem?_eq_getElem hlt] at hk
    injection hk with hk
    simp [hk, hx]
  · have h2 := List.all_eq_true.1 h (q[j]'(by omega)) (by
      rw [List.mem_take_iff_getElem]
      exact ⟨j, by omega, rfl⟩)
    simpa using h2
theorem idxR_lt {q : List Sn} {n : Int} {k : Nat} (h : idxR q n = some k) : k < q.length := by
  unfold idxR at h
  rw [List.findIdx?_eq_some_iff_getElem] at h
  exact h.1
set_option maxHeartbeats 2000000 in
set_option maxRecDepth 100000 in
theorem sameNum_calls (s : Int) (x : Sn) (as0 an af : Int) (ag : Bool) (g4 : Nat) (B : Nat) (w0 w : World) (H : List As) (HM : SL.Mod B w0 (cells g4 [.int .i64 as0, .int .i64 an, .bool ag, .int .u64 af] 42 :: H) w) :
    Calls Try.prog 75 #[.agg (x.cells s).toArray, .pointer (some ⟨g4, 0, none⟩)] w fun e w' => e = .returned (.bool (decide (x.n = an))) ∧ SL.Mod B w0 (cells g4 [.int .i64 as0, .int .i64 an, .bool ag, .int .u64 af] 42 :: H) w' := by
  have E : Aside0 (decide (x.n = an) = (x.n == an)) := ⟨by rw [Bool.eq_iff_iff]; simp⟩
  rw [E.out]
  go_enter Try.func75, Try.ntmps75
  go_wp2_with (first | go_step3 | ((with_reducible apply sl_want); exact rfl) | ((with_reducible apply sl_load HM); exact rfl; infer_instance; infer_instance; (try simp only [Act.put, List.setIfInBounds_toArray, List.set_cons_zero, List.set_cons_succ])) | ((with_reducible apply sl_store HM); exact rfl; (first | exact Ev.tmp rfl | exact Ev.const); infer_instance; infer_instance; infer_instance; clear HM; (try clear wq); intro wq HM; (try simp only [Act.put, List.setIfInBounds_toArray, List.set_cons_zero, List.set_cons_succ])) | ((with_reducible apply sl_loadR); exact rfl; assumption; (try simp only [Act.put, List.setIfInBounds_toArray, List.set_cons_zero, List.set_cons_succ])) | ((with_reducible apply sl_loadH HM); exact rfl; assumption; infer_instance; (try simp only [Act.put, List.setIfInBounds_toArray, List.set_cons_zero, List.set_cons_succ])) | ((with_reducible refine gate_dst (N := 2) rfl ?_); (with_reducible apply sl_box HM); (first | exact Ev.tmp rfl | exact Ev.const); exact rfl; clear HM; (try clear wq); intro g2 wq HM; (try simp only [Act.put, List.setIfInBounds_toArray, List.set_cons_zero, List.set_cons_succ])))
  exact sl_ret1 rfl (vals_tmp rfl .nil) ⟨rfl, HM.sub⟩
set_option maxHeartbeats 2000000 in
set_option maxRecDepth 100000 in
theorem indexR_calls (s : Int) (q : List Sn) (as0 an af : Int) (ag : Bool) (A : Option Addr) (c g4 : Nat) (hl : q.length ≤ 1000000) (B : Nat) (w0 w : World) (H : List As) (hr : ∀ w, SL.Mod B w0 (cells g4 [.int .i64 as0, .int .i64 an, .bool ag, .int .u64 af] 42 :: H) w → Reads w A (sents s q)) (HM : SL.Mod B w0 (cells g4 [.int .i64 as0, .int .i64 an, .bool ag, .int .u64 af] 42 :: H) w) :
    Calls Try.prog 74 #[.slice A q.length c, .func (.func 75) #[] #[.pointer (some ⟨g4, 0, none⟩)]] w fun e w' => e = .returned (.int .i64 (optIx (idxR q an))) ∧ SL.Mod B w0 (cells g4 [.int .i64 as0, .int .i64 an, .bool ag, .int .u64 af] 42 :: H) w' := by
  have HR := Aside0.mk hr
  clear hr
  go_enter Try.func74, Try.ntmps74
  go_wp2_with (first | go_step3 | ((with_reducible apply sl_want); exact rfl) | ((with_reducible apply sl_load HM); exact rfl; infer_instance; infer_instance; (try simp only [Act.put, List.setIfInBounds_toArray, List.set_cons_zero, List.set_cons_succ])) | ((with_reducible apply sl_store HM); exact rfl; (first | exact Ev.tmp rfl | exact Ev.const); infer_instance; infer_instance; infer_instance; clear HM; (try clear wq); intro wq HM; (try simp only [Act.put, List.setIfInBounds_toArray, List.set_cons_zero, List.set_cons_succ])) | ((with_reducible apply sl_loadR); exact rfl; assumption; (try simp only [Act.put, List.setIfInBounds_toArray, List.set_cons_zero, List.set_cons_succ])) | ((with_reducible apply sl_loadH HM); exact rfl; assumption; infer_instance; (try simp only [Act.put, List.setIfInBounds_toArray, List.set_cons_zero, List.set_cons_succ])))
  go_loopw [5, 8] (fun v5 v8 wr => ∃ k : Nat, v8 = .int .i64 k ∧ k ≤ q.length ∧ Aside0 ((q.take k).all (fun x => !decide (x.n = an)) = true) ∧ Aside0 (SL.Mod B w0 (cells g4 [.int .i64 as0, .int .i64 an, .bool ag, .int .u64 af] 42 :: H) wr)) (fun _ v8 _ => q.length - (intOf v8).toNat)
  case atStart => exact ⟨0, rfl, by omega, ⟨rfl⟩, ⟨HM⟩⟩
  case round =>
    obtain ⟨k, rfl, hk, HA, HM0⟩ := hrel
    clear HM
    have HM := HM0.out
    clear HM0
    by_cases hlt : k < q.length
    · obtain ⟨ad, rfl⟩ := (HR.out _ HM).addr (by rw [flat_len (sn_len s)]; omega)
      obtain ⟨x, hx⟩ : ∃ x, q[k]? = some x := ⟨_, List.getElem?_eq_getElem hlt⟩
      have hld : Aside0 (∀ w', SL.Mod B w0 (cells g4 [.int .i64 as0, .int .i64 an, .bool ag, .int .u64 af] 42 :: H) w' → Sem.run Try.prog (Instr.loadAt 140 (.pointer (some (ad.add (k * 4))))) w' = .ok (.agg (x.cells s).toArray) w') := ⟨fun w' h => load_seg (HR.out _ h) (k * 4) (flat_seg (sn_len s) q k x hx) (sn_len s x)⟩
      have HX := Aside0.mk hx
      clear hx
      by_cases hf : x.n = an
      · have E : Aside0 (decide (x.n = an) = true) := ⟨decide_eq_true hf⟩
        have E2 : Aside0 (idxR q an = some k) := ⟨idxR_at HA.out HX.out hf⟩
        clear hf
        go_wp2_with first | (go_at_call 75; refine (sameNum_calls s x as0 an af ag g4 B w0 _ H HM).mono ?_; rintro e wq ⟨rfl, HM1⟩; clear HM; have HM := HM1; clear HM1; rw [E.out]) | (first | go_step3 | ((with_reducible apply sl_want); exact rfl) | ((with_reducible apply sl_load HM); exact rfl; infer_instance; infer_instance; (try simp only [Act.put, List.setIfInBounds_toArray, List.set_cons_zero, List.set_cons_succ])) | ((with_reducible apply sl_store HM); exact rfl; (first | exact Ev.tmp rfl | exact Ev.const); infer_instance; infer_instance; infer_instance; clear HM; (try clear wq); intro wq HM; (try simp only [Act.put, List.setIfInBounds_toArray, List.set_cons_zero, List.set_cons_succ])) | ((with_reducible apply sl_loadR); exact rfl; assumption; (try simp only [Act.put, List.setIfInBounds_toArray, List.set_cons_zero, List.set_cons_succ])) | ((with_reducible apply sl_loadH HM); exact rfl; assumption; infer_instance; (try simp only [Act.put, List.setIfInBounds_toArray, List.set_cons_zero, List.set_cons_succ])))
        exact sl_ret1 rfl (vals_tmp rfl .nil) ⟨by rw [E2.out]; rfl, HM⟩
      · have E : Aside0 (decide (x.n = an) = false) := ⟨decide_eq_false hf⟩
        clear hf
        go_wp2_with first | (go_at_call 75; refine (sameNum_calls s x as0 an af ag g4 B w0 _ H HM).mono ?_; rintro e wq ⟨rfl, HM1⟩; clear HM; have HM := HM1; clear HM1; rw [E.out]) | (first | go_step3 | ((with_reducible apply sl_want); exact rfl) | ((with_reducible apply sl_load HM); exact rfl; infer_instance; infer_instance; (try simp only [Act.put, List.setIfInBounds_toArray, List.set_cons_zero, List.set_cons_succ])) | ((with_reducible apply sl_store HM); exact rfl; (first | exact Ev.tmp rfl | exact Ev.const); infer_instance; infer_instance; infer_instance; clear HM; (try clear wq); intro wq HM; (try simp only [Act.put, List.setIfInBounds_toArray, List.set_cons_zero, List.set_cons_succ])) | ((with_reducible apply sl_loadR); exact rfl; assumption; (try simp only [Act.put, List.setIfInBounds_toArray, List.set_cons_zero, List.set_cons_succ])) | ((with_reducible apply sl_loadH HM); exact rfl; assumption; infer_instance; (try simp only [Act.put, List.setIfInBounds_toArray, List.set_cons_zero, List.set_cons_succ])))
        refine ⟨⟨k + 1, rfl, hlt, ⟨?_⟩, ⟨HM⟩⟩, by simp only [intOf]; omega⟩
        rw [List.take_add_one, HX.out, List.all_append, HA.out]
        simp [E.out]
    · have hkl : k = q.length := by omega
      subst hkl
      have E2 : Aside0 (idxR q an = none) := ⟨idxR_none (by have := HA.out; rwa [List.take_length] at this)⟩
      go_wp2_with (first | go_step3 | ((with_reducible apply sl_want); exact rfl) | ((with_reducible apply sl_load HM); exact rfl; infer_instance; infer_instance; (try simp only [Act.put, List.setIfInBounds_toArray, List.set_cons_zero, List.set_cons_succ])) | ((with_reducible apply sl_store HM); exact rfl; (first | exact Ev.tmp rfl | exact Ev.const); infer_instance; infer_instance; infer_instance; clear HM; (try clear wq); intro wq HM; (try simp only [Act.put, List.setIfInBounds_toArray, List.set_cons_zero, List.set_cons_succ])) | ((with_reducible apply sl_loadR); exact rfl; assumption; (try simp only [Act.put, List.setIfInBounds_toArray, List.set_cons_zero, List.set_cons_succ])) | ((with_reducible apply sl_loadH HM); exact rfl; assumption; infer_instance; (try simp only [Act.put, List.setIfInBounds_toArray, List.set_cons_zero, List.set_cons_succ])))
      exact sl_ret1 rfl (vals_tmp rfl .nil) ⟨by rw [E2.out]; rfl, HM⟩
end Go.Proofs.Ytghfoooldcbdnaa
