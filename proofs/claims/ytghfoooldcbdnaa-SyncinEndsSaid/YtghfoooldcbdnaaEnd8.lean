/-
  PART 8 OF THE PROOF OF SyncinEnds: laid together from the proof's own texts: Snd3, Snd4, Snd5, Snd6.
-/
import Derived.WalkSmall
import Derived.Test.YtghfoooldcbdnaaEnd5
import Derived.Test.YtghfoooldcbdnaaEnd7
set_option linter.unusedVariables false
set_option linter.unusedSimpArgs false
namespace Go.Proofs.Ytghfoooldcbdnaa
open Go.RowKit Go.Proofs.Ytghfoooldcbdnaa.SL Go.Proofs.YtghfoooldcbdnaaW.PrintWords

def SS.room (S : SS) : Bool := match S.rg[0]? with
  | none => true
  | some x => decide (S.rg.length < 16) && decide (S.nx - x.n < 16)
theorem sent_at {s : Int} {rg : List Sn} {k : Nat} {x : Sn} (hx : rg[k]? = some x) (o : Nat) (ho : o < 4) : (sents s rg)[k * 4 + o]? = (x.cells s)[o]? := by
  have h1 := flat_seg (sn_len s) rg k x hx
  rw [← h1, List.getElem?_take_of_lt ho, List.getElem?_drop]
set_option maxHeartbeats 4000000 in
set_option maxRecDepth 100000 in
theorem room_calls (g : Nat) (S : SS) (hq : S.rg.length ≤ 1000000) (hn : ∀ x, S.rg[0]? = some x → 0 ≤ x.n ∧ x.n ≤ 4611686018427387905) (hx : 0 ≤ S.nx ∧ S.nx ≤ 4611686018427387905) (B : Nat) (w0 w : World) (H : List As) (HM : SL.Mod B w0 (snd g S :: H) w) :
    Calls Try.prog 70 #[.pointer (some ⟨g, 0, none⟩)] w fun e w' => e = .returned (.bool S.room) ∧ SL.Mod B w0 (snd g S :: H) w' := by
  obtain ⟨gm, AQ, cQ, AR, cR, HM1⟩ := Mod.openSnd HM
  clear HM
  have HM := HM1
  clear HM1
  cases h0 : S.rg[0]? with
  | none =>
    have E : Aside0 (S.room = true) := ⟨by unfold SS.room; rw [h0]⟩
    have hl : S.rg.length = 0 := by rw [List.getElem?_eq_none_iff] at h0; omega
    have hz : ((S.rg.length : Int) == 0) = true := by rw [hl]; rfl
    have hz2 : (S.rg.length == 0) = true := by rw [hl]; rfl
    clear h0 hl hn
    go_enter Try.func70, Try.ntmps70
    go_wp2_with (first | go_step3 | ((with_reducible apply sl_want); exact rfl) | ((with_reducible apply sl_load HM); exact rfl; infer_instance; infer_instance; (try simp only [Act.put, List.setIfInBounds_toArray, List.set_cons_zero, List.set_cons_succ])) | ((with_reducible apply sl_store HM); exact rfl; (first | exact Ev.tmp rfl | exact Ev.const); infer_instance; infer_instance; infer_instance; clear HM; (try clear wq); intro wq HM; (try simp only [Act.put, List.setIfInBounds_toArray, List.set_cons_zero, List.set_cons_succ])) | ((with_reducible apply sl_loadR); exact rfl; assumption; (try simp only [Act.put, List.setIfInBounds_toArray, List.set_cons_zero, List.set_cons_succ])) | ((with_reducible apply sl_loadH HM); exact rfl; assumption; infer_instance; (try simp only [Act.put, List.setIfInBounds_toArray, List.set_cons_zero, List.set_cons_succ])))
    refine wp_drawnS HM [] [(0, 1), (1, 1), (2, 1), (3, 0), (4, 1), (5, 1), (6, 1), (7, 1), (8, 1), (9, 1), (10, 0), (11, 1), (12, 1), (13, 1), (14, 1), (15, 1), (16, 1), (17, 0), (18, 1), (19, 1), (20, 1), (21, 0), (22, 1), (23, 1), (24, 1), (25, 0), (26, 1), (27, 1), (28, 1), (29, 1), (30, 1)] (by kernel_rfl) (by kernel_rfl) (by kernel_rfl) (by kernel_rfl) (fun _ _ d _ _ h => by cases d <;> exact h) ?_; clear HM; (try clear wq); intro wq HM
    repeat (first | ((with_reducible apply t_move); exact rfl; exact rfl; (first | exact Ev.tmp rfl | exact Ev.const); (try simp only [Act.put, List.setIfInBounds_toArray, List.set_cons_zero, List.set_cons_succ])) | ((with_reducible apply t_assign); exact rfl; exact rfl; (first | exact Ev.tmp rfl | exact Ev.const); (try simp only [Act.put, List.setIfInBounds_toArray, List.set_cons_zero, List.set_cons_succ])) | ((with_reducible apply t_load HM); exact rfl; exact rfl; exact rfl; infer_instance; infer_instance; infer_instance; (try simp only [Act.put, List.setIfInBounds_toArray, List.set_cons_zero, List.set_cons_succ])) | ((with_reducible apply t_loadH HM); exact rfl; exact rfl; exact rfl; assumption; infer_instance; infer_instance; (try simp only [Act.put, List.setIfInBounds_toArray, List.set_cons_zero, List.set_cons_succ])) | ((with_reducible apply t_skip); exact rfl; exact rfl; (try simp only [Act.put, List.setIfInBounds_toArray, List.set_cons_zero, List.set_cons_succ])) | ((with_reducible apply t_skip0 HM); exact rfl; exact rfl; infer_instance; (try simp only [Act.put, List.setIfInBounds_toArray, List.set_cons_zero, List.set_cons_succ])) | ((with_reducible apply t_skip2 HM); exact rfl; exact rfl; infer_instance; (try simp only [Act.put, List.setIfInBounds_toArray, List.set_cons_zero, List.set_cons_succ])) | ((with_reducible apply t_pure); exact rfl; exact rfl; (focus (intro wv; go_simp; (try (go_ints; (try go_simp))); (first | done | rfl | (rw [if_pos (by omega)]; done)))); (try simp only [Act.put, List.setIfInBounds_toArray, List.set_cons_zero, List.set_cons_succ])))
    refine t_nil ?_
    go_wp2_with (fail)
    exact sl_ret1 rfl (vals_tmp rfl .nil) ⟨by rw [E.out], (Mod.closeSnd (gm := gm) (vQ := .slice AQ S.q.length cQ) (vR := .slice AR S.rg.length cR) HM.sub)⟩
  | some x =>
    have E : Aside0 (S.room = (decide (S.rg.length < 16) && decide (S.nx - x.n < 16))) := ⟨by unfold SS.room; rw [h0]⟩
    have hl : 0 < S.rg.length := (List.getElem?_eq_some_iff.1 h0).1
    have hz : ((S.rg.length : Int) == 0) = false := by rw [beq_eq_false_iff_ne]; omega
    obtain ⟨ad, rfl⟩ : ∃ ad, AR = some ad := (ownsRow_reads (HM.rowOwn (.slice AR S.rg.length cR))).1.addr (by rw [flat_len (sn_len S.s)]; omega)
    have hld : Aside0 (∀ w', SL.Mod B w0 [row (.slice (some ad) S.rg.length cR) 140 4 S.rg.length (sents S.s S.rg)] w' → Sem.run Try.prog (Instr.loadAt 3 (.pointer (some (ad.add 1)))) w' = .ok (.int .i64 x.n) w') := ⟨fun w' h => load_one (ownsRow_reads (h.rowOwn (.slice (some ad) S.rg.length cR))).1 1 (by have := sent_at (s := S.s) h0 1 (by omega); simpa using this)⟩
    obtain ⟨n0, n1⟩ := hn x h0
    obtain ⟨x0, x1⟩ := hx
    by_cases h16 : S.rg.length < 16
    · have hd : decide ((S.rg.length : Int) < 16) = true := decide_eq_true (by omega)
      have E1 : Aside0 (decide (S.rg.length < 16) = true) := ⟨decide_eq_true h16⟩
      clear h0
      go_enter Try.func70, Try.ntmps70
      go_wp2_with (first | go_step3 | ((with_reducible apply sl_want); exact rfl) | ((with_reducible apply sl_load HM); exact rfl; infer_instance; infer_instance; (try simp only [Act.put, List.setIfInBounds_toArray, List.set_cons_zero, List.set_cons_succ])) | ((with_reducible apply sl_store HM); exact rfl; (first | exact Ev.tmp rfl | exact Ev.const); infer_instance; infer_instance; infer_instance; clear HM; (try clear wq); intro wq HM; (try simp only [Act.put, List.setIfInBounds_toArray, List.set_cons_zero, List.set_cons_succ])) | ((with_reducible apply sl_loadR); exact rfl; assumption; (try simp only [Act.put, List.setIfInBounds_toArray, List.set_cons_zero, List.set_cons_succ])) | ((with_reducible apply sl_loadH HM); exact rfl; assumption; infer_instance; (try simp only [Act.put, List.setIfInBounds_toArray, List.set_cons_zero, List.set_cons_succ])))
      refine wp_drawnS HM [] [(0, 1), (1, 1), (2, 1), (3, 0), (4, 1), (5, 1), (6, 1), (7, 1), (8, 1), (9, 1), (10, 0), (11, 1), (12, 1), (13, 1), (14, 1), (15, 1), (16, 1), (17, 0), (18, 1), (19, 1), (20, 1), (21, 0), (22, 1), (23, 1), (24, 1), (25, 0), (26, 1), (27, 1), (28, 1), (29, 1), (30, 1)] (by kernel_rfl) (by kernel_rfl) (by kernel_rfl) (by kernel_rfl) (fun _ _ d _ _ h => by cases d <;> exact h) ?_; clear HM; (try clear wq); intro wq HM
      repeat (first | ((with_reducible apply t_move); exact rfl; exact rfl; (first | exact Ev.tmp rfl | exact Ev.const); (try simp only [Act.put, List.setIfInBounds_toArray, List.set_cons_zero, List.set_cons_succ])) | ((with_reducible apply t_assign); exact rfl; exact rfl; (first | exact Ev.tmp rfl | exact Ev.const); (try simp only [Act.put, List.setIfInBounds_toArray, List.set_cons_zero, List.set_cons_succ])) | ((with_reducible apply t_load HM); exact rfl; exact rfl; exact rfl; infer_instance; infer_instance; infer_instance; (try simp only [Act.put, List.setIfInBounds_toArray, List.set_cons_zero, List.set_cons_succ])) | ((with_reducible apply t_loadH HM); exact rfl; exact rfl; exact rfl; assumption; infer_instance; infer_instance; (try simp only [Act.put, List.setIfInBounds_toArray, List.set_cons_zero, List.set_cons_succ])) | ((with_reducible apply t_skip); exact rfl; exact rfl; (try simp only [Act.put, List.setIfInBounds_toArray, List.set_cons_zero, List.set_cons_succ])) | ((with_reducible apply t_skip0 HM); exact rfl; exact rfl; infer_instance; (try simp only [Act.put, List.setIfInBounds_toArray, List.set_cons_zero, List.set_cons_succ])) | ((with_reducible apply t_skip2 HM); exact rfl; exact rfl; infer_instance; (try simp only [Act.put, List.setIfInBounds_toArray, List.set_cons_zero, List.set_cons_succ])) | ((with_reducible apply t_pure); exact rfl; exact rfl; (focus (intro wv; go_simp; (try (go_ints; (try go_simp))); (first | done | rfl | (rw [if_pos (by omega)]; done)))); (try simp only [Act.put, List.setIfInBounds_toArray, List.set_cons_zero, List.set_cons_succ])))
      refine t_nil ?_
      go_wp2_with (fail)
      refine sl_ret1 rfl (vals_tmp rfl .nil) ⟨?_, (Mod.closeSnd (gm := gm) (vQ := .slice AQ S.q.length cQ) (vR := .slice (some ad) S.rg.length cR) HM.sub)⟩
      rw [E.out, E1.out, Bool.true_and]
    · have hd : decide ((S.rg.length : Int) < 16) = false := decide_eq_false (by omega)
      have E1 : Aside0 (decide (S.rg.length < 16) = false) := ⟨decide_eq_false h16⟩
      clear h0
      go_enter Try.func70, Try.ntmps70
      go_wp2_with (first | go_step3 | ((with_reducible apply sl_want); exact rfl) | ((with_reducible apply sl_load HM); exact rfl; infer_instance; infer_instance; (try simp only [Act.put, List.setIfInBounds_toArray, List.set_cons_zero, List.set_cons_succ])) | ((with_reducible apply sl_store HM); exact rfl; (first | exact Ev.tmp rfl | exact Ev.const); infer_instance; infer_instance; infer_instance; clear HM; (try clear wq); intro wq HM; (try simp only [Act.put, List.setIfInBounds_toArray, List.set_cons_zero, List.set_cons_succ])) | ((with_reducible apply sl_loadR); exact rfl; assumption; (try simp only [Act.put, List.setIfInBounds_toArray, List.set_cons_zero, List.set_cons_succ])) | ((with_reducible apply sl_loadH HM); exact rfl; assumption; infer_instance; (try simp only [Act.put, List.setIfInBounds_toArray, List.set_cons_zero, List.set_cons_succ])))
      refine wp_drawnS HM [] [(0, 1), (1, 1), (2, 1), (3, 0), (4, 1), (5, 1), (6, 1), (7, 1), (8, 1), (9, 1), (10, 0), (11, 1), (12, 1), (13, 1), (14, 1), (15, 1), (16, 1), (17, 0), (18, 1), (19, 1), (20, 1), (21, 0), (22, 1), (23, 1), (24, 1), (25, 0), (26, 1), (27, 1), (28, 1), (29, 1), (30, 1)] (by kernel_rfl) (by kernel_rfl) (by kernel_rfl) (by kernel_rfl) (fun _ _ d _ _ h => by cases d <;> exact h) ?_; clear HM; (try clear wq); intro wq HM
      repeat (first | ((with_reducible apply t_move); exact rfl; exact rfl; (first | exact Ev.tmp rfl | exact Ev.const); (try simp only [Act.put, List.setIfInBounds_toArray, List.set_cons_zero, List.set_cons_succ])) | ((with_reducible apply t_assign); exact rfl; exact rfl; (first | exact Ev.tmp rfl | exact Ev.const); (try simp only [Act.put, List.setIfInBounds_toArray, List.set_cons_zero, List.set_cons_succ])) | ((with_reducible apply t_load HM); exact rfl; exact rfl; exact rfl; infer_instance; infer_instance; infer_instance; (try simp only [Act.put, List.setIfInBounds_toArray, List.set_cons_zero, List.set_cons_succ])) | ((with_reducible apply t_loadH HM); exact rfl; exact rfl; exact rfl; assumption; infer_instance; infer_instance; (try simp only [Act.put, List.setIfInBounds_toArray, List.set_cons_zero, List.set_cons_succ])) | ((with_reducible apply t_skip); exact rfl; exact rfl; (try simp only [Act.put, List.setIfInBounds_toArray, List.set_cons_zero, List.set_cons_succ])) | ((with_reducible apply t_skip0 HM); exact rfl; exact rfl; infer_instance; (try simp only [Act.put, List.setIfInBounds_toArray, List.set_cons_zero, List.set_cons_succ])) | ((with_reducible apply t_skip2 HM); exact rfl; exact rfl; infer_instance; (try simp only [Act.put, List.setIfInBounds_toArray, List.set_cons_zero, List.set_cons_succ])) | ((with_reducible apply t_pure); exact rfl; exact rfl; (focus (intro wv; go_simp; (try (go_ints; (try go_simp))); (first | done | rfl | (rw [if_pos (by omega)]; done)))); (try simp only [Act.put, List.setIfInBounds_toArray, List.set_cons_zero, List.set_cons_succ])))
      refine t_nil ?_
      go_wp2_with (fail)
      refine sl_ret1 rfl (vals_tmp rfl .nil) ⟨?_, (Mod.closeSnd (gm := gm) (vQ := .slice AQ S.q.length cQ) (vR := .slice (some ad) S.rg.length cR) HM.sub)⟩
      rw [E.out, E1.out, Bool.false_and]

/-- Where a batch stands among those that wait. -/
def idxR (rg : List Sn) (n : Int) : Option Nat := rg.findIdx? (fun x => decide (x.n = n))
theorem idxR_none {q : List Sn} {n : Int} (h : q.all (fun x => !decide (x.n = n)) = true) : idxR q n = none := by
  unfold idxR
  rw [List.findIdx?_eq_none_iff]
  intro x hx
  have := List.all_eq_true.1 h x hx
  simpa using this
theorem idxR_at {q : List Sn} {n : Int} {k : Nat} {x : Sn} (h : (q.take k).all (fun x => !decide (x.n = n)) = true) (hk : q[k]? = some x) (hx : x.n = n) : idxR q n = some k := by
  unfold idxR
  rw [List.findIdx?_eq_some_iff_getElem]
  have hlt : k < q.length := (List.getElem?_eq_some_iff.1 hk).1
  refine ⟨hlt, ?_, fun j hj => ?_⟩
  · rw [List.getElem?_eq_getElem hlt] at hk
    injection hk with hk
    simp [hk, hx]
  · have h2 := List.all_eq_true.1 h (q[j]'(by omega)) (by
      rw [List.mem_take_iff_getElem]
      exact ⟨j, by omega, rfl⟩)
    simpa using h2
theorem idxR_lt {q : List Sn} {n : Int} {k : Nat} (h : idxR q n = some k) : k < q.length := by
  unfold idxR at h
  rw [List.findIdx?_eq_some_iff_getElem] at h
  exact h.1
set_option maxHeartbeats 2000000 in
set_option maxRecDepth 100000 in
theorem sameNum_calls (s : Int) (x : Sn) (as0 an af : Int) (ag : Bool) (g4 : Nat) (B : Nat) (w0 w : World) (H : List As) (HM : SL.Mod B w0 (cells g4 [.int .i64 as0, .int .i64 an, .bool ag, .int .u64 af] 42 :: H) w) :
    Calls Try.prog 75 #[.agg (x.cells s).toArray, .pointer (some ⟨g4, 0, none⟩)] w fun e w' => e = .returned (.bool (decide (x.n = an))) ∧ SL.Mod B w0 (cells g4 [.int .i64 as0, .int .i64 an, .bool ag, .int .u64 af] 42 :: H) w' := by
  have E : Aside0 (decide (x.n = an) = (x.n == an)) := ⟨by rw [Bool.eq_iff_iff]; simp⟩
  rw [E.out]
  go_enter Try.func75, Try.ntmps75
  go_wp2_with (first | go_step3 | ((with_reducible apply sl_want); exact rfl) | ((with_reducible apply sl_load HM); exact rfl; infer_instance; infer_instance; (try simp only [Act.put, List.setIfInBounds_toArray, List.set_cons_zero, List.set_cons_succ])) | ((with_reducible apply sl_store HM); exact rfl; (first | exact Ev.tmp rfl | exact Ev.const); infer_instance; infer_instance; infer_instance; clear HM; (try clear wq); intro wq HM; (try simp only [Act.put, List.setIfInBounds_toArray, List.set_cons_zero, List.set_cons_succ])) | ((with_reducible apply sl_loadR); exact rfl; assumption; (try simp only [Act.put, List.setIfInBounds_toArray, List.set_cons_zero, List.set_cons_succ])) | ((with_reducible apply sl_loadH HM); exact rfl; assumption; infer_instance; (try simp only [Act.put, List.setIfInBounds_toArray, List.set_cons_zero, List.set_cons_succ])) | ((with_reducible refine gate_dst (N := 2) rfl ?_); (with_reducible apply sl_box HM); (first | exact Ev.tmp rfl | exact Ev.const); exact rfl; clear HM; (try clear wq); intro g2 wq HM; (try simp only [Act.put, List.setIfInBounds_toArray, List.set_cons_zero, List.set_cons_succ])))
  exact sl_ret1 rfl (vals_tmp rfl .nil) ⟨rfl, HM.sub⟩
set_option maxHeartbeats 2000000 in
set_option maxRecDepth 100000 in
theorem indexR_calls (s : Int) (q : List Sn) (as0 an af : Int) (ag : Bool) (A : Option Addr) (c g4 : Nat) (hl : q.length ≤ 1000000) (B : Nat) (w0 w : World) (H : List As) (hr : ∀ w, SL.Mod B w0 (cells g4 [.int .i64 as0, .int .i64 an, .bool ag, .int .u64 af] 42 :: H) w → Reads w A (sents s q)) (HM : SL.Mod B w0 (cells g4 [.int .i64 as0, .int .i64 an, .bool ag, .int .u64 af] 42 :: H) w) :
    Calls Try.prog 74 #[.slice A q.length c, .func (.func 75) #[] #[.pointer (some ⟨g4, 0, none⟩)]] w fun e w' => e = .returned (.int .i64 (optIx (idxR q an))) ∧ SL.Mod B w0 (cells g4 [.int .i64 as0, .int .i64 an, .bool ag, .int .u64 af] 42 :: H) w' := by
  have HR := Aside0.mk hr
  clear hr
  go_enter Try.func74, Try.ntmps74
  go_wp2_with (first | go_step3 | ((with_reducible apply sl_want); exact rfl) | ((with_reducible apply sl_load HM); exact rfl; infer_instance; infer_instance; (try simp only [Act.put, List.setIfInBounds_toArray, List.set_cons_zero, List.set_cons_succ])) | ((with_reducible apply sl_store HM); exact rfl; (first | exact Ev.tmp rfl | exact Ev.const); infer_instance; infer_instance; infer_instance; clear HM; (try clear wq); intro wq HM; (try simp only [Act.put, List.setIfInBounds_toArray, List.set_cons_zero, List.set_cons_succ])) | ((with_reducible apply sl_loadR); exact rfl; assumption; (try simp only [Act.put, List.setIfInBounds_toArray, List.set_cons_zero, List.set_cons_succ])) | ((with_reducible apply sl_loadH HM); exact rfl; assumption; infer_instance; (try simp only [Act.put, List.setIfInBounds_toArray, List.set_cons_zero, List.set_cons_succ])))
  go_loopw [5, 8] (fun v5 v8 wr => ∃ k : Nat, v8 = .int .i64 k ∧ k ≤ q.length ∧ Aside0 ((q.take k).all (fun x => !decide (x.n = an)) = true) ∧ Aside0 (SL.Mod B w0 (cells g4 [.int .i64 as0, .int .i64 an, .bool ag, .int .u64 af] 42 :: H) wr)) (fun _ v8 _ => q.length - (intOf v8).toNat)
  case atStart => exact ⟨0, rfl, by omega, ⟨rfl⟩, ⟨HM⟩⟩
  case round =>
    obtain ⟨k, rfl, hk, HA, HM0⟩ := hrel
    clear HM
    have HM := HM0.out
    clear HM0
    by_cases hlt : k < q.length
    · obtain ⟨ad, rfl⟩ := (HR.out _ HM).addr (by rw [flat_len (sn_len s)]; omega)
      obtain ⟨x, hx⟩ : ∃ x, q[k]? = some x := ⟨_, List.getElem?_eq_getElem hlt⟩
      have hld : Aside0 (∀ w', SL.Mod B w0 (cells g4 [.int .i64 as0, .int .i64 an, .bool ag, .int .u64 af] 42 :: H) w' → Sem.run Try.prog (Instr.loadAt 140 (.pointer (some (ad.add (k * 4))))) w' = .ok (.agg (x.cells s).toArray) w') := ⟨fun w' h => load_seg (HR.out _ h) (k * 4) (flat_seg (sn_len s) q k x hx) (sn_len s x)⟩
      have HX := Aside0.mk hx
      clear hx
      by_cases hf : x.n = an
      · have E : Aside0 (decide (x.n = an) = true) := ⟨decide_eq_true hf⟩
        have E2 : Aside0 (idxR q an = some k) := ⟨idxR_at HA.out HX.out hf⟩
        clear hf
        go_wp2_with first | (go_at_call 75; refine (sameNum_calls s x as0 an af ag g4 B w0 _ H HM).mono ?_; rintro e wq ⟨rfl, HM1⟩; clear HM; have HM := HM1; clear HM1; rw [E.out]) | (first | go_step3 | ((with_reducible apply sl_want); exact rfl) | ((with_reducible apply sl_load HM); exact rfl; infer_instance; infer_instance; (try simp only [Act.put, List.setIfInBounds_toArray, List.set_cons_zero, List.set_cons_succ])) | ((with_reducible apply sl_store HM); exact rfl; (first | exact Ev.tmp rfl | exact Ev.const); infer_instance; infer_instance; infer_instance; clear HM; (try clear wq); intro wq HM; (try simp only [Act.put, List.setIfInBounds_toArray, List.set_cons_zero, List.set_cons_succ])) | ((with_reducible apply sl_loadR); exact rfl; assumption; (try simp only [Act.put, List.setIfInBounds_toArray, List.set_cons_zero, List.set_cons_succ])) | ((with_reducible apply sl_loadH HM); exact rfl; assumption; infer_instance; (try simp only [Act.put, List.setIfInBounds_toArray, List.set_cons_zero, List.set_cons_succ])))
        exact sl_ret1 rfl (vals_tmp rfl .nil) ⟨by rw [E2.out]; rfl, HM⟩
      · have E : Aside0 (decide (x.n = an) = false) := ⟨decide_eq_false hf⟩
        clear hf
        go_wp2_with first | (go_at_call 75; refine (sameNum_calls s x as0 an af ag g4 B w0 _ H HM).mono ?_; rintro e wq ⟨rfl, HM1⟩; clear HM; have HM := HM1; clear HM1; rw [E.out]) | (first | go_step3 | ((with_reducible apply sl_want); exact rfl) | ((with_reducible apply sl_load HM); exact rfl; infer_instance; infer_instance; (try simp only [Act.put, List.setIfInBounds_toArray, List.set_cons_zero, List.set_cons_succ])) | ((with_reducible apply sl_store HM); exact rfl; (first | exact Ev.tmp rfl | exact Ev.const); infer_instance; infer_instance; infer_instance; clear HM; (try clear wq); intro wq HM; (try simp only [Act.put, List.setIfInBounds_toArray, List.set_cons_zero, List.set_cons_succ])) | ((with_reducible apply sl_loadR); exact rfl; assumption; (try simp only [Act.put, List.setIfInBounds_toArray, List.set_cons_zero, List.set_cons_succ])) | ((with_reducible apply sl_loadH HM); exact rfl; assumption; infer_instance; (try simp only [Act.put, List.setIfInBounds_toArray, List.set_cons_zero, List.set_cons_succ])))
        refine ⟨⟨k + 1, rfl, hlt, ⟨?_⟩, ⟨HM⟩⟩, by simp only [intOf]; omega⟩
        rw [List.take_add_one, HX.out, List.all_append, HA.out]
        simp [E.out]
    · have hkl : k = q.length := by omega
      subst hkl
      have E2 : Aside0 (idxR q an = none) := ⟨idxR_none (by have := HA.out; rwa [List.take_length] at this)⟩
      go_wp2_with (first | go_step3 | ((with_reducible apply sl_want); exact rfl) | ((with_reducible apply sl_load HM); exact rfl; infer_instance; infer_instance; (try simp only [Act.put, List.setIfInBounds_toArray, List.set_cons_zero, List.set_cons_succ])) | ((with_reducible apply sl_store HM); exact rfl; (first | exact Ev.tmp rfl | exact Ev.const); infer_instance; infer_instance; infer_instance; clear HM; (try clear wq); intro wq HM; (try simp only [Act.put, List.setIfInBounds_toArray, List.set_cons_zero, List.set_cons_succ])) | ((with_reducible apply sl_loadR); exact rfl; assumption; (try simp only [Act.put, List.setIfInBounds_toArray, List.set_cons_zero, List.set_cons_succ])) | ((with_reducible apply sl_loadH HM); exact rfl; assumption; infer_instance; (try simp only [Act.put, List.setIfInBounds_toArray, List.set_cons_zero, List.set_cons_succ])))
      exact sl_ret1 rfl (vals_tmp rfl .nil) ⟨by rw [E2.out]; rfl, HM⟩
end Go.Proofs.Ytghfoooldcbdnaa
set_option linter.unusedVariables false
set_option linter.unusedSimpArgs false
namespace Go.Proofs.Ytghfoooldcbdnaa
open Go.RowKit Go.Proofs.Ytghfoooldcbdnaa.SL Go.Proofs.YtghfoooldcbdnaaW.PrintWords

theorem sents_len (s : Int) (L : List Sn) : (sents s L).length = L.length * 4 := flat_len (sn_len s) L
theorem erase_sents (s : Int) : ∀ (L : List Sn) (k : Nat), k < L.length → sents s (L.eraseIdx k) = (sents s L).take (k * 4) ++ (sents s L).drop ((k + 1) * 4)
  | [], k, h => by simp at h
  | x :: L, 0, _ => by
    simp only [sents, List.eraseIdx_cons_zero, List.flatMap_cons, Nat.zero_mul, List.take_zero, List.nil_append]
    rfl
  | x :: L, k + 1, h => by
    have h1 := erase_sents s L k (by simpa using h)
    simp only [sents, List.eraseIdx_cons_succ, List.flatMap_cons] at h1 ⊢
    rw [h1]
    have e1 : (k + 1) * 4 = (x.cells s).length + k * 4 := by rw [sn_len]; omega
    have e2 : (k + 1 + 1) * 4 = (x.cells s).length + (k * 4 + 4) := by rw [sn_len]; omega
    rw [e2, e1, List.take_append, List.drop_append, List.take_of_length_le (l := x.cells s) (by omega), List.drop_eq_nil_of_le (show (x.cells s).length ≤ (x.cells s).length + (k * 4 + 4) by omega), List.nil_append]
    simp only [Nat.add_sub_cancel_left, List.append_assoc]
    rw [show (x.cells s).length + k * 4 = k * 4 + 4 from by rw [sn_len]; omega]
theorem sents_ones (s : Int) (L : List Sn) : Ones (sents s L) := ⟨by
  intro v hv
  obtain ⟨x, _, hx⟩ := List.mem_flatMap.1 hv
  simp at hx
  rcases hx with rfl | rfl | rfl | rfl <;> rfl⟩
theorem ones_drop {l : List Value} (h : Ones l) (n : Nat) : Ones (l.drop n) := ⟨fun v hv => h.all v (List.mem_of_mem_drop hv)⟩
set_option maxHeartbeats 4000000 in
set_option maxRecDepth 100000 in
theorem Delete_calls (s : Int) (L : List Sn) (k : Nat) (hk : k < L.length) (A : Option Addr) (c : Nat) (B : Nat) (w0 w : World) (H : List As) (HM : SL.Mod B w0 (row (.slice A L.length c) 140 4 L.length (sents s L) :: H) w) :
    Calls Try.prog 76 #[.slice A L.length c, .int .i64 k, .int .i64 ((k + 1 : Nat) : Int)] w fun e w' => ∃ v', e = .returned v' ∧ SL.Mod B w0 (row v' 140 4 (L.eraseIdx k).length (sents s (L.eraseIdx k)) :: H) w' := by
  obtain ⟨ad, rfl⟩ : ∃ ad, A = some ad := (ownsRow_reads (HM.rowOwn (.slice A L.length c))).1.addr (by rw [sents_len]; omega)
  obtain ⟨gR, cs, rfl, HM1, _, hc1, hc2, hcl, hct⟩ := Mod.openRow HM
  clear HM
  have HM := HM1
  clear HM1
  have hS := sents_len s L
  have E := Aside0.mk (erase_sents s L k hk)
  have hel : Aside0 ((L.eraseIdx k).length = L.length - 1) := ⟨by rw [List.length_eraseIdx_of_lt hk]⟩
  obtain ⟨S0, hS0⟩ : ∃ S0, S0 = sents s L := ⟨_, rfl⟩
  have H1 : Aside0 (Ones (S0.drop ((k + 1) * 4))) := ⟨by rw [hS0]; exact ones_drop (sents_ones s L) _⟩
  rw [← hS0] at hct hS E
  have HRD : Aside0 (∀ w', SL.Mod B w0 [cells gR cs 140] w' → Reads w' (subA (some ⟨gR, 0, none⟩) (k + 1) c 4) (S0.drop ((k + 1) * 4))) := ⟨fun w' h => by
    refine Reads.drop ?_ _ _ _ (by omega)
    rw [← hct]
    exact Reads.take (fun j u hu => ⟨_, rfl, cells_at (h.has gR) j u hu⟩) _⟩
  have HCT := Aside0.mk hct
  have HSD : Aside0 ((S0.drop ((k + 1) * 4)).length = (L.length - (k + 1)) * 4) := ⟨by rw [List.length_drop, hS]; omega⟩
  obtain ⟨nw, hnw⟩ : ∃ nw, nw = S0.drop ((k + 1) * 4) := ⟨_, rfl⟩
  rw [← hnw] at H1 HRD HSD E
  obtain ⟨n, hn⟩ : ∃ n, n = L.length := ⟨_, rfl⟩
  rw [← hn] at HSD hk hc1 HCT hel ⊢
  have hz : (k == k + 1) = false := by rw [beq_eq_false_iff_ne]; omega
  have hz2 : ((k : Int) == ((k + 1 : Nat) : Int)) = false := by rw [beq_eq_false_iff_ne]; omega
  clear hct hnw hn
  go_enter Try.func76, Try.ntmps76
  go_wp2_with first | ((with_reducible refine gate_dst (N := 13) rfl ?_); (with_reducible apply sl_subLHM (sz := 4) (k) (k + 1) (n)); (first | exact Ev.tmp rfl | exact Ev.const); (first | exact Ev.tmp rfl | exact Ev.const); (first | exact Ev.tmp rfl | exact Ev.const); (first | exact Ev.tmp rfl | exact Ev.const); exact Try.underlying132; (focus kernel_rfl); omega; omega; omega; (try simp only [Act.put, List.setIfInBounds_toArray, List.set_cons_zero, List.set_cons_succ])) | (first | go_step3 | ((with_reducible apply sl_want); exact rfl) | ((with_reducible apply sl_load HM); exact rfl; infer_instance; infer_instance; (try simp only [Act.put, List.setIfInBounds_toArray, List.set_cons_zero, List.set_cons_succ])) | ((with_reducible apply sl_store HM); exact rfl; (first | exact Ev.tmp rfl | exact Ev.const); infer_instance; infer_instance; infer_instance; clear HM; (try clear wq); intro wq HM; (try simp only [Act.put, List.setIfInBounds_toArray, List.set_cons_zero, List.set_cons_succ])) | ((with_reducible apply sl_loadR); exact rfl; assumption; (try simp only [Act.put, List.setIfInBounds_toArray, List.set_cons_zero, List.set_cons_succ])) | ((with_reducible apply sl_loadH HM); exact rfl; assumption; infer_instance; (try simp only [Act.put, List.setIfInBounds_toArray, List.set_cons_zero, List.set_cons_succ])) | ((with_reducible refine gate_dst (N := 26) rfl ?_); (with_reducible apply sl_append_lit HM); (first | exact Ev.tmp rfl | exact Ev.const); infer_instance; (first | exact Ev.tmp rfl | exact Ev.const); infer_instance; infer_instance; exact rfl; infer_instance; (first | omega | (simp only [List.length_append, List.length_cons, List.length_nil] at *; omega)); clear HM; (try clear wq); intro v26 wq HM; (try simp only [Act.put, List.setIfInBounds_toArray, List.set_cons_zero, List.set_cons_succ]); haveI := HM.rowOne v26))
  refine wp_drawnB HM gR [] [(0, 1), (1, 1), (2, 1), (3, 1), (4, 1), (5, 1), (6, 2), (7, 1)] (by kernel_rfl) (by kernel_rfl) (by kernel_rfl) (by kernel_rfl) (fun _ _ d _ _ h => by cases d <;> exact h) ?_; clear HM; (try clear wq); intro wq HM
  repeat (first | ((with_reducible refine t_at (n := 2) rfl ?_); (with_reducible apply t_subH (sz := 4) (k)); exact rfl; exact rfl; (first | exact Ev.tmp rfl | exact Ev.const); (first | exact Ev.tmp rfl | exact Ev.const); exact Try.underlying132; (focus kernel_rfl); omega; (try simp only [Act.put, List.setIfInBounds_toArray, List.set_cons_zero, List.set_cons_succ])) | ((with_reducible refine t_at (n := 5) rfl ?_); (with_reducible apply t_subL (sz := 4) (k + 1)); exact rfl; exact rfl; (first | exact Ev.tmp rfl | exact Ev.const); (first | exact Ev.tmp rfl | exact Ev.const); exact Try.underlying132; (focus kernel_rfl); omega; (try simp only [Act.put, List.setIfInBounds_toArray, List.set_cons_zero, List.set_cons_succ])) | ((with_reducible refine t_at (n := 6) rfl ?_); (with_reducible apply t_eff); exact rfl; exact rfl; intro K hK; (with_reducible apply ow_append_in (sz := 4) (news := nw) HM (n - 1)); (first | exact Ev.tmp rfl | exact Ev.const); (first | exact Ev.tmp rfl | exact Ev.const); infer_instance; exact Try.underlying132; (focus kernel_rfl); decide; exact (HRD.out _ HM.sub); exact HSD.out; exact H1.out; exact (by omega); exact hcl; exact (by omega); infer_instance; clear HM; (try clear wq); intro wq HM; refine hK _ _ _ HM inferInstance ?_; clear hK K; (try simp only [Act.put, List.setIfInBounds_toArray, List.set_cons_zero, List.set_cons_succ])) | ((with_reducible apply t_move); exact rfl; exact rfl; (first | exact Ev.tmp rfl | exact Ev.const); (try simp only [Act.put, List.setIfInBounds_toArray, List.set_cons_zero, List.set_cons_succ])) | ((with_reducible apply t_assign); exact rfl; exact rfl; (first | exact Ev.tmp rfl | exact Ev.const); (try simp only [Act.put, List.setIfInBounds_toArray, List.set_cons_zero, List.set_cons_succ])) | ((with_reducible apply t_load HM); exact rfl; exact rfl; exact rfl; infer_instance; infer_instance; infer_instance; (try simp only [Act.put, List.setIfInBounds_toArray, List.set_cons_zero, List.set_cons_succ])) | ((with_reducible apply t_loadH HM); exact rfl; exact rfl; exact rfl; assumption; infer_instance; infer_instance; (try simp only [Act.put, List.setIfInBounds_toArray, List.set_cons_zero, List.set_cons_succ])) | ((with_reducible apply t_skip); exact rfl; exact rfl; (try simp only [Act.put, List.setIfInBounds_toArray, List.set_cons_zero, List.set_cons_succ])) | ((with_reducible apply t_skip0 HM); exact rfl; exact rfl; infer_instance; (try simp only [Act.put, List.setIfInBounds_toArray, List.set_cons_zero, List.set_cons_succ])) | ((with_reducible apply t_skip2 HM); exact rfl; exact rfl; infer_instance; (try simp only [Act.put, List.setIfInBounds_toArray, List.set_cons_zero, List.set_cons_succ])) | ((with_reducible apply t_pure); exact rfl; exact rfl; (focus (intro wv; go_simp; (try (go_ints; (try go_simp))); (first | done | rfl | (rw [if_pos (by omega)]; done)))); (try simp only [Act.put, List.setIfInBounds_toArray, List.set_cons_zero, List.set_cons_succ])) | ((with_reducible refine t_at (n := 6) rfl ?_); ((with_reducible apply t_eff); exact rfl; exact rfl; intro K hK; (with_reducible apply ow_append_lit HM); (first | exact Ev.tmp rfl | exact Ev.const); infer_instance; (first | exact Ev.tmp rfl | exact Ev.const); infer_instance; infer_instance; exact rfl; infer_instance; (first | omega | (simp only [List.length_append, List.length_cons, List.length_nil] at *; omega)); clear HM; (try clear wq); intro v26 wq HM; refine hK _ _ _ HM inferInstance ?_; clear hK K; (try simp only [Act.put, List.setIfInBounds_toArray, List.set_cons_zero, List.set_cons_succ]))))
  refine t_nil ?_
  go_wp2_with first | ((with_reducible apply sl_clear_in (zs := [.int .i64 0, .int .i64 0, .slice none 0 0, .int .i64 0]) HM ((n - 1) * 4)); (first | exact Ev.tmp rfl | exact Ev.const); exact (by unfold subA; rw [if_neg (by omega), Option.map_some, add_at, Nat.zero_add]); exact (by omega); infer_instance; exact Try.underlying132; (focus kernel_rfl); infer_instance; exact (by simp; have := HSD.out; omega); infer_instance; clear HM; (try clear wq); intro wq HM; (try simp only [Act.put, List.setIfInBounds_toArray, List.set_cons_zero, List.set_cons_succ])) | ((with_reducible refine gate_dst (N := 31) rfl ?_); (with_reducible apply sl_subLH (sz := 4) (n - 1) (n)); (first | exact Ev.tmp rfl | exact Ev.const); (first | exact Ev.tmp rfl | exact Ev.const); (first | exact Ev.tmp rfl | exact Ev.const); exact Try.underlying132; (focus kernel_rfl); omega; omega; (try simp only [Act.put, List.setIfInBounds_toArray, List.set_cons_zero, List.set_cons_succ])) | (first | go_step3 | ((with_reducible apply sl_want); exact rfl) | ((with_reducible apply sl_load HM); exact rfl; infer_instance; infer_instance; (try simp only [Act.put, List.setIfInBounds_toArray, List.set_cons_zero, List.set_cons_succ])) | ((with_reducible apply sl_store HM); exact rfl; (first | exact Ev.tmp rfl | exact Ev.const); infer_instance; infer_instance; infer_instance; clear HM; (try clear wq); intro wq HM; (try simp only [Act.put, List.setIfInBounds_toArray, List.set_cons_zero, List.set_cons_succ])) | ((with_reducible apply sl_loadR); exact rfl; assumption; (try simp only [Act.put, List.setIfInBounds_toArray, List.set_cons_zero, List.set_cons_succ])) | ((with_reducible apply sl_loadH HM); exact rfl; assumption; infer_instance; (try simp only [Act.put, List.setIfInBounds_toArray, List.set_cons_zero, List.set_cons_succ])) | ((with_reducible refine gate_dst (N := 26) rfl ?_); (with_reducible apply sl_append_lit HM); (first | exact Ev.tmp rfl | exact Ev.const); infer_instance; (first | exact Ev.tmp rfl | exact Ev.const); infer_instance; infer_instance; exact rfl; infer_instance; (first | omega | (simp only [List.length_append, List.length_cons, List.length_nil] at *; omega)); clear HM; (try clear wq); intro v26 wq HM; (try simp only [Act.put, List.setIfInBounds_toArray, List.set_cons_zero, List.set_cons_succ]); haveI := HM.rowOne v26))
  have hl1 : (cs.take (k * 4) ++ nw).length = (n - 1) * 4 := by rw [List.length_append, List.length_take, HSD.out, hcl]; omega
  have hl2 : (cs.take (k * 4) ++ nw ++ cs.drop (k * 4 + nw.length)).length = c * 4 := by rw [mid_len _ _ _ (by rw [HSD.out, hcl]; omega), hcl]
  have HM1 := Mod.closeRow (n := n - 1) (c := c) (sz := 4) (xs := sents s (L.eraseIdx k)) HM (by omega) hc2 (by rw [mid_len _ _ _ (by rw [hl2]; simp; omega), hl2]) (by
    rw [List.append_assoc, List.take_left' (by rw [List.length_take, hl2]; omega), List.take_left' hl1, E.out, ← HCT.out, List.take_take, Nat.min_eq_left (by omega)])
  exact sl_ret1 rfl (vals_tmp rfl .nil) ⟨_, rfl, rowLen HM1 hel.out.symm⟩
end Go.Proofs.Ytghfoooldcbdnaa
set_option linter.unusedVariables false
set_option linter.unusedSimpArgs false
namespace Go.Proofs.Ytghfoooldcbdnaa
open Go.RowKit Go.Proofs.Ytghfoooldcbdnaa.SL Go.Proofs.YtghfoooldcbdnaaW.PrintWords

/-- The batches behind one number are due at once. -/
def Sn.late (an now : Int) (x : Sn) : Sn := if an < x.n then { x with due := now } else x
def lateK (an now : Int) (rg : List Sn) (k : Nat) : List Sn := (rg.take k).map (Sn.late an now) ++ rg.drop k
theorem late_own (an now : Int) (x : Sn) : (x.late an now).own = x.own := by
  unfold Sn.late
  split <;> rfl
theorem lateK_own (an now : Int) (rg : List Sn) (k : Nat) : (lateK an now rg k).map Sn.own = rg.map Sn.own := by
  unfold lateK
  rw [List.map_append, List.map_map, show Sn.own ∘ Sn.late an now = Sn.own from funext (late_own an now), ← List.map_append, List.take_append_drop]
theorem lateK_len (an now : Int) (rg : List Sn) (k : Nat) : (lateK an now rg k).length = rg.length := by
  unfold lateK
  rw [List.length_append, List.length_map, ← List.length_append, List.take_append_drop]
theorem lateK_zero (an now : Int) (rg : List Sn) : lateK an now rg 0 = rg := by simp [lateK]
theorem lateK_all (an now : Int) (rg : List Sn) : lateK an now rg rg.length = rg.map (Sn.late an now) := by simp [lateK]
theorem lateK_at {an now : Int} {rg : List Sn} {k : Nat} {x : Sn} (h : rg[k]? = some x) : (lateK an now rg k)[k]? = some x := by
  unfold lateK
  have hk : k < rg.length := (List.getElem?_eq_some_iff.1 h).1
  rw [List.getElem?_append_right (by simp; omega), List.getElem?_drop]
  simp only [List.length_map, List.length_take]
  rw [show k + (k - min k rg.length) = k by omega, h]
theorem lateK_succ {an now : Int} {rg : List Sn} {k : Nat} {x : Sn} (h : rg[k]? = some x) : lateK an now rg (k + 1) = (lateK an now rg k).set k (x.late an now) := by
  have hk : k < rg.length := (List.getElem?_eq_some_iff.1 h).1
  have hx : rg[k] = x := by
    rw [List.getElem?_eq_getElem hk] at h
    injection h
  unfold lateK
  rw [List.take_add_one, h, List.map_append, List.set_append_right _ _ (by simp; omega)]
  rw [List.drop_eq_getElem_cons hk]
  simp only [List.length_map, List.length_take]
  rw [show k - min k rg.length = 0 by omega, List.set_cons_zero]
  simp
theorem set_same {l : List Sn} {k : Nat} {x : Sn} (h : l[k]? = some x) : l.set k x = l := by
  have hk : k < l.length := (List.getElem?_eq_some_iff.1 h).1
  rw [List.getElem?_eq_getElem hk] at h
  injection h with h
  rw [← h, List.set_getElem_self]
theorem set_due (s : Int) : ∀ (l : List Sn) (k : Nat) (x : Sn) (d : Int), l[k]? = some x → sents s (l.set k { x with due := d }) = (sents s l).take (k * 4 + 3) ++ [.int .i64 d] ++ (sents s l).drop (k * 4 + 4)
  | [], k, x, d, h => by simp at h
  | y :: l, 0, x, d, h => by
    have e : y = x := by simpa using h
    subst e
    simp only [sents, List.set_cons_zero, List.flatMap_cons]
    rfl
  | y :: l, k + 1, x, d, h => by
    have h1 := set_due s l k x d (by simpa using h)
    simp only [sents, List.set_cons_succ, List.flatMap_cons] at h1 ⊢
    rw [h1]
    have e1 : (k + 1) * 4 + 3 = (y.cells s).length + (k * 4 + 3) := by rw [sn_len]; omega
    have e2 : (k + 1) * 4 + 4 = (y.cells s).length + (k * 4 + 4) := by rw [sn_len]; omega
    rw [e2, e1, List.take_append, List.drop_append, List.take_of_length_le (l := y.cells s) (by omega), List.drop_eq_nil_of_le (show (y.cells s).length ≤ (y.cells s).length + (k * 4 + 4) by omega), List.nil_append]
    simp only [Nat.add_sub_cancel_left, List.append_assoc]
theorem seg_one {cs : List Value} {i : Nat} {v : Value} (h : cs[i]? = some v) : SegAt cs i 1 [v] := by
  obtain ⟨hi, rfl⟩ := List.getElem?_eq_some_iff.1 h
  exact ⟨⟨by rw [List.drop_eq_getElem_cons hi]; rfl, by omega⟩⟩
theorem seg_take {cs xs : List Value} {m i : Nat} {v : Value} (h : cs.take m = xs) (hx : xs[i]? = some v) : SegAt cs i 1 [v] := by
  refine seg_one ?_
  have hi := (List.getElem?_eq_some_iff.1 hx).1
  rw [← h, List.length_take] at hi
  rw [← h, List.getElem?_take_of_lt (by omega)] at hx
  exact hx

abbrev ansC (as0 an : Int) (ag : Bool) (af : Int) : List Value := [.int .i64 as0, .int .i64 an, .bool ag, .int .u64 af]
set_option maxHeartbeats 4000000 in
set_option maxRecDepth 100000 in
theorem Take_other (g : Nat) (S : SS) (as0 an af now : Int) (ag : Bool) (hs : as0 ≠ S.s) (B : Nat) (w0 w : World) (H : List As) (HM : SL.Mod B w0 (snd g S :: H) w) :
    Calls Try.prog 36 #[.pointer (some ⟨g, 0, none⟩), .agg (ansC as0 an ag af).toArray, .int .i64 now] w fun e w' => e = .returned (.bool false) ∧ SL.Mod B w0 (snd g S :: H) w' := by
  obtain ⟨gm, AQ, cQ, AR, cR, HM1⟩ := Mod.openSnd HM
  clear HM
  have HM := HM1
  clear HM1
  have hd : (as0 != S.s) = true := by simpa using hs
  have hd2 : (as0 == S.s) = false := by simpa using hs
  clear hs
  go_enter Try.func36, Try.ntmps36
  go_wp2_with (first | go_step3 | ((with_reducible apply sl_want); exact rfl) | ((with_reducible apply sl_load HM); exact rfl; infer_instance; infer_instance; (try simp only [Act.put, List.setIfInBounds_toArray, List.set_cons_zero, List.set_cons_succ])) | ((with_reducible apply sl_store HM); exact rfl; (first | exact Ev.tmp rfl | exact Ev.const); infer_instance; infer_instance; infer_instance; clear HM; (try clear wq); intro wq HM; (try simp only [Act.put, List.setIfInBounds_toArray, List.set_cons_zero, List.set_cons_succ])) | ((with_reducible apply sl_loadR); exact rfl; assumption; (try simp only [Act.put, List.setIfInBounds_toArray, List.set_cons_zero, List.set_cons_succ])) | ((with_reducible apply sl_loadH HM); exact rfl; assumption; infer_instance; (try simp only [Act.put, List.setIfInBounds_toArray, List.set_cons_zero, List.set_cons_succ])) | ((with_reducible refine gate_dst (N := 4) rfl ?_); (with_reducible apply sl_box HM); (first | exact Ev.tmp rfl | exact Ev.const); exact rfl; clear HM; (try clear wq); intro g4 wq HM; (try simp only [Act.put, List.setIfInBounds_toArray, List.set_cons_zero, List.set_cons_succ])) | ((with_reducible refine gate_dst (N := 10) rfl ?_); (with_reducible apply sl_alloc HM); infer_instance; clear HM; (try clear wq); intro g10 wq HM; (try simp only [Act.put, List.setIfInBounds_toArray, List.set_cons_zero, List.set_cons_succ])))
  refine wp_drawnS HM [] [(0, 1), (1, 0), (2, 1), (3, 1), (4, 1), (5, 0), (6, 1)] (by kernel_rfl) (by kernel_rfl) (by kernel_rfl) (by kernel_rfl) (fun _ _ d _ _ h => by cases d <;> exact h) ?_; clear HM; (try clear wq); intro wq HM
  repeat (first | ((with_reducible apply t_move); exact rfl; exact rfl; (first | exact Ev.tmp rfl | exact Ev.const); (try simp only [Act.put, List.setIfInBounds_toArray, List.set_cons_zero, List.set_cons_succ])) | ((with_reducible apply t_assign); exact rfl; exact rfl; (first | exact Ev.tmp rfl | exact Ev.const); (try simp only [Act.put, List.setIfInBounds_toArray, List.set_cons_zero, List.set_cons_succ])) | ((with_reducible apply t_load HM); exact rfl; exact rfl; exact rfl; infer_instance; infer_instance; infer_instance; (try simp only [Act.put, List.setIfInBounds_toArray, List.set_cons_zero, List.set_cons_succ])) | ((with_reducible apply t_loadH HM); exact rfl; exact rfl; exact rfl; assumption; infer_instance; infer_instance; (try simp only [Act.put, List.setIfInBounds_toArray, List.set_cons_zero, List.set_cons_succ])) | ((with_reducible apply t_skip); exact rfl; exact rfl; (try simp only [Act.put, List.setIfInBounds_toArray, List.set_cons_zero, List.set_cons_succ])) | ((with_reducible apply t_skip0 HM); exact rfl; exact rfl; infer_instance; (try simp only [Act.put, List.setIfInBounds_toArray, List.set_cons_zero, List.set_cons_succ])) | ((with_reducible apply t_skip2 HM); exact rfl; exact rfl; infer_instance; (try simp only [Act.put, List.setIfInBounds_toArray, List.set_cons_zero, List.set_cons_succ])) | ((with_reducible apply t_pure); exact rfl; exact rfl; (focus (intro wv; go_simp; (try (go_ints; (try go_simp))); (first | done | rfl | (rw [if_pos (by omega)]; done)))); (try simp only [Act.put, List.setIfInBounds_toArray, List.set_cons_zero, List.set_cons_succ])))
  refine t_nil ?_
  go_wp2_with (first | go_step3 | ((with_reducible apply sl_want); exact rfl) | ((with_reducible apply sl_load HM); exact rfl; infer_instance; infer_instance; (try simp only [Act.put, List.setIfInBounds_toArray, List.set_cons_zero, List.set_cons_succ])) | ((with_reducible apply sl_store HM); exact rfl; (first | exact Ev.tmp rfl | exact Ev.const); infer_instance; infer_instance; infer_instance; clear HM; (try clear wq); intro wq HM; (try simp only [Act.put, List.setIfInBounds_toArray, List.set_cons_zero, List.set_cons_succ])) | ((with_reducible apply sl_loadR); exact rfl; assumption; (try simp only [Act.put, List.setIfInBounds_toArray, List.set_cons_zero, List.set_cons_succ])) | ((with_reducible apply sl_loadH HM); exact rfl; assumption; infer_instance; (try simp only [Act.put, List.setIfInBounds_toArray, List.set_cons_zero, List.set_cons_succ])) | ((with_reducible refine gate_dst (N := 4) rfl ?_); (with_reducible apply sl_box HM); (first | exact Ev.tmp rfl | exact Ev.const); exact rfl; clear HM; (try clear wq); intro g4 wq HM; (try simp only [Act.put, List.setIfInBounds_toArray, List.set_cons_zero, List.set_cons_succ])) | ((with_reducible refine gate_dst (N := 10) rfl ?_); (with_reducible apply sl_alloc HM); infer_instance; clear HM; (try clear wq); intro g10 wq HM; (try simp only [Act.put, List.setIfInBounds_toArray, List.set_cons_zero, List.set_cons_succ])))
  exact sl_ret1 rfl (vals_tmp rfl .nil) ⟨rfl, (Mod.closeSnd (gm := gm) (vQ := .slice AQ S.q.length cQ) (vR := .slice AR S.rg.length cR) HM.sub)⟩
abbrev gapL (g gm : Nat) (AQ : Option Addr) (cQ : Nat) (AR : Option Addr) (n cR : Nat) (S : SS) (rg : List Sn) (H : List As) (g4 : Nat) (cs : List Value) : List As :=
  row (.slice AR n cR) 140 4 n (sents S.s rg) :: cells g4 cs 42 :: cells g [.int .i64 S.s, .int .i64 S.ev, .int .i64 S.nx, .slice AQ S.q.length cQ, .slice AR n cR, .map (some gm)] 134 :: row (.slice AQ S.q.length cQ) 53 8 S.q.length (recs S.q) :: kmap gm (S.kn.map kenc) :: SL.star (S.rg.map Sn.own) :: H
set_option maxHeartbeats 4000000 in
set_option maxRecDepth 100000 in
theorem SndTake_gap (g : Nat) (S : SS) (as0 an af now : Int) (hs : as0 = S.s) (hl : S.rg.length ≤ 1000000) (B : Nat) (w0 w : World) (H : List As) (HM : SL.Mod B w0 (snd g S :: H) w) :
    Calls Try.prog 36 #[.pointer (some ⟨g, 0, none⟩), .agg (ansC as0 an true af).toArray, .int .i64 now] w fun e w' => e = .returned (.bool true) ∧ SL.Mod B w0 (snd g { S with rg := S.rg.map (Sn.late an now) } :: H) w' := by
  subst hs
  obtain ⟨gm, AQ, cQ, AR, cR, HM1⟩ := Mod.openSnd HM
  clear HM
  have HM := HM1
  clear HM1
  have hd : (S.s != S.s) = false := by simp
  obtain ⟨n, hn⟩ : ∃ n, n = S.rg.length := ⟨_, rfl⟩
  have HN := Aside0.mk hn
  rw [← hn] at HM hl
  clear hn
  go_enter Try.func36, Try.ntmps36
  go_wp2_with (first | go_step3 | ((with_reducible apply sl_want); exact rfl) | ((with_reducible apply sl_load HM); exact rfl; infer_instance; infer_instance; (try simp only [Act.put, List.setIfInBounds_toArray, List.set_cons_zero, List.set_cons_succ])) | ((with_reducible apply sl_store HM); exact rfl; (first | exact Ev.tmp rfl | exact Ev.const); infer_instance; infer_instance; infer_instance; clear HM; (try clear wq); intro wq HM; (try simp only [Act.put, List.setIfInBounds_toArray, List.set_cons_zero, List.set_cons_succ])) | ((with_reducible apply sl_loadR); exact rfl; assumption; (try simp only [Act.put, List.setIfInBounds_toArray, List.set_cons_zero, List.set_cons_succ])) | ((with_reducible apply sl_loadH HM); exact rfl; assumption; infer_instance; (try simp only [Act.put, List.setIfInBounds_toArray, List.set_cons_zero, List.set_cons_succ])) | ((with_reducible refine gate_dst (N := 4) rfl ?_); (with_reducible apply sl_box HM); (first | exact Ev.tmp rfl | exact Ev.const); exact rfl; clear HM; (try clear wq); intro g4 wq HM; (try simp only [Act.put, List.setIfInBounds_toArray, List.set_cons_zero, List.set_cons_succ])) | ((with_reducible refine gate_dst (N := 10) rfl ?_); (with_reducible apply sl_alloc HM); infer_instance; clear HM; (try clear wq); intro g10 wq HM; (try simp only [Act.put, List.setIfInBounds_toArray, List.set_cons_zero, List.set_cons_succ])))
  refine wp_drawnS HM [] [(0, 1), (1, 0), (2, 1), (3, 1), (4, 1), (5, 0), (6, 1)] (by kernel_rfl) (by kernel_rfl) (by kernel_rfl) (by kernel_rfl) (fun _ _ d _ _ h => by cases d <;> exact h) ?_; clear HM; (try clear wq); intro wq HM
  repeat (first | ((with_reducible apply t_move); exact rfl; exact rfl; (first | exact Ev.tmp rfl | exact Ev.const); (try simp only [Act.put, List.setIfInBounds_toArray, List.set_cons_zero, List.set_cons_succ])) | ((with_reducible apply t_assign); exact rfl; exact rfl; (first | exact Ev.tmp rfl | exact Ev.const); (try simp only [Act.put, List.setIfInBounds_toArray, List.set_cons_zero, List.set_cons_succ])) | ((with_reducible apply t_load HM); exact rfl; exact rfl; exact rfl; infer_instance; infer_instance; infer_instance; (try simp only [Act.put, List.setIfInBounds_toArray, List.set_cons_zero, List.set_cons_succ])) | ((with_reducible apply t_loadH HM); exact rfl; exact rfl; exact rfl; assumption; infer_instance; infer_instance; (try simp only [Act.put, List.setIfInBounds_toArray, List.set_cons_zero, List.set_cons_succ])) | ((with_reducible apply t_skip); exact rfl; exact rfl; (try simp only [Act.put, List.setIfInBounds_toArray, List.set_cons_zero, List.set_cons_succ])) | ((with_reducible apply t_skip0 HM); exact rfl; exact rfl; infer_instance; (try simp only [Act.put, List.setIfInBounds_toArray, List.set_cons_zero, List.set_cons_succ])) | ((with_reducible apply t_skip2 HM); exact rfl; exact rfl; infer_instance; (try simp only [Act.put, List.setIfInBounds_toArray, List.set_cons_zero, List.set_cons_succ])) | ((with_reducible apply t_pure); exact rfl; exact rfl; (focus (intro wv; go_simp; (try (go_ints; (try go_simp))); (first | done | rfl | (rw [if_pos (by omega)]; done)))); (try simp only [Act.put, List.setIfInBounds_toArray, List.set_cons_zero, List.set_cons_succ])))
  refine t_nil ?_
  go_wp2_with (first | go_step3 | ((with_reducible apply sl_want); exact rfl) | ((with_reducible apply sl_load HM); exact rfl; infer_instance; infer_instance; (try simp only [Act.put, List.setIfInBounds_toArray, List.set_cons_zero, List.set_cons_succ])) | ((with_reducible apply sl_store HM); exact rfl; (first | exact Ev.tmp rfl | exact Ev.const); infer_instance; infer_instance; infer_instance; clear HM; (try clear wq); intro wq HM; (try simp only [Act.put, List.setIfInBounds_toArray, List.set_cons_zero, List.set_cons_succ])) | ((with_reducible apply sl_loadR); exact rfl; assumption; (try simp only [Act.put, List.setIfInBounds_toArray, List.set_cons_zero, List.set_cons_succ])) | ((with_reducible apply sl_loadH HM); exact rfl; assumption; infer_instance; (try simp only [Act.put, List.setIfInBounds_toArray, List.set_cons_zero, List.set_cons_succ])) | ((with_reducible refine gate_dst (N := 4) rfl ?_); (with_reducible apply sl_box HM); (first | exact Ev.tmp rfl | exact Ev.const); exact rfl; clear HM; (try clear wq); intro g4 wq HM; (try simp only [Act.put, List.setIfInBounds_toArray, List.set_cons_zero, List.set_cons_succ])) | ((with_reducible refine gate_dst (N := 10) rfl ?_); (with_reducible apply sl_alloc HM); infer_instance; clear HM; (try clear wq); intro g10 wq HM; (try simp only [Act.put, List.setIfInBounds_toArray, List.set_cons_zero, List.set_cons_succ])))
  go_loopw [7, 26] (fun v7 v26 wr => ∃ k : Nat, v26 = .int .i64 k ∧ k ≤ n ∧ Aside0 (SL.Mod B w0 (gapL g gm AQ cQ AR n cR S (lateK an now S.rg k) H g4 (ansC S.s an true af)) wr)) (fun _ v26 _ => n - (intOf v26).toNat)
  case atStart => exact ⟨0, rfl, by omega, ⟨by rw [lateK_zero]; exact HM.sub⟩⟩
  case round =>
    obtain ⟨k, rfl, hk, HM0⟩ := hrel
    clear HM
    by_cases hlt : k < n
    · obtain ⟨x, hx⟩ : ∃ x, S.rg[k]? = some x := ⟨_, List.getElem?_eq_getElem (by have := HN.out; omega)⟩
      have hx2 := lateK_at (an := an) (now := now) hx
      have HX := Aside0.mk hx
      have HX2 := Aside0.mk hx2
      obtain ⟨ad, rfl⟩ : ∃ ad, AR = some ad := (ownsRow_reads (HM0.out.rowOwn (.slice AR n cR))).1.addr (by rw [sents_len, lateK_len, ← HN.out]; omega)
      obtain ⟨gR, cs, rfl, HM, _, hc1, hc2, hcl, hct⟩ := Mod.openRow HM0.out
      clear HM0
      haveI : SegAt cs (k * 4 + 1) 1 [.int .i64 x.n] := seg_take hct (by have := sent_at (s := S.s) hx2 1 (by omega); simpa using this)
      have HCT := Aside0.mk hct
      have HC2 := Aside0.mk hc2
      have HCL := Aside0.mk hcl
      haveI := put_mid cs [.int .i64 now] (k * 4 + 3) (by simp; omega)
      clear hx hx2 hct hcl hc2
      by_cases hf : an < x.n
      · have E : Aside0 (x.late an now = { x with due := now }) := ⟨by unfold Sn.late; rw [if_pos hf]⟩
        have hff : decide (an < x.n) = true := decide_eq_true hf
        clear hf
        go_wp2_with (first | go_step3 | ((with_reducible apply sl_want); exact rfl) | ((with_reducible apply sl_load HM); exact rfl; infer_instance; infer_instance; (try simp only [Act.put, List.setIfInBounds_toArray, List.set_cons_zero, List.set_cons_succ])) | ((with_reducible apply sl_store HM); exact rfl; (first | exact Ev.tmp rfl | exact Ev.const); infer_instance; infer_instance; infer_instance; clear HM; (try clear wq); intro wq HM; (try simp only [Act.put, List.setIfInBounds_toArray, List.set_cons_zero, List.set_cons_succ])) | ((with_reducible apply sl_loadR); exact rfl; assumption; (try simp only [Act.put, List.setIfInBounds_toArray, List.set_cons_zero, List.set_cons_succ])) | ((with_reducible apply sl_loadH HM); exact rfl; assumption; infer_instance; (try simp only [Act.put, List.setIfInBounds_toArray, List.set_cons_zero, List.set_cons_succ])) | ((with_reducible refine gate_dst (N := 4) rfl ?_); (with_reducible apply sl_box HM); (first | exact Ev.tmp rfl | exact Ev.const); exact rfl; clear HM; (try clear wq); intro g4 wq HM; (try simp only [Act.put, List.setIfInBounds_toArray, List.set_cons_zero, List.set_cons_succ])) | ((with_reducible refine gate_dst (N := 10) rfl ?_); (with_reducible apply sl_alloc HM); infer_instance; clear HM; (try clear wq); intro g10 wq HM; (try simp only [Act.put, List.setIfInBounds_toArray, List.set_cons_zero, List.set_cons_succ])))
        refine wp_drawnS HM [] [(0, 1), (1, 1), (2, 1), (3, 0), (4, 1), (5, 1), (6, 1), (7, 1), (8, 0), (9, 1), (10, 0), (11, 1)] (by kernel_rfl) (by kernel_rfl) (by kernel_rfl) (by kernel_rfl) (fun _ _ d _ _ h => by cases d <;> exact h) ?_; clear HM; (try clear wq); intro wq HM
        repeat (first | ((with_reducible apply t_move); exact rfl; exact rfl; (first | exact Ev.tmp rfl | exact Ev.const); (try simp only [Act.put, List.setIfInBounds_toArray, List.set_cons_zero, List.set_cons_succ])) | ((with_reducible apply t_assign); exact rfl; exact rfl; (first | exact Ev.tmp rfl | exact Ev.const); (try simp only [Act.put, List.setIfInBounds_toArray, List.set_cons_zero, List.set_cons_succ])) | ((with_reducible apply t_load HM); exact rfl; exact rfl; exact rfl; infer_instance; infer_instance; infer_instance; (try simp only [Act.put, List.setIfInBounds_toArray, List.set_cons_zero, List.set_cons_succ])) | ((with_reducible apply t_loadH HM); exact rfl; exact rfl; exact rfl; assumption; infer_instance; infer_instance; (try simp only [Act.put, List.setIfInBounds_toArray, List.set_cons_zero, List.set_cons_succ])) | ((with_reducible apply t_skip); exact rfl; exact rfl; (try simp only [Act.put, List.setIfInBounds_toArray, List.set_cons_zero, List.set_cons_succ])) | ((with_reducible apply t_skip0 HM); exact rfl; exact rfl; infer_instance; (try simp only [Act.put, List.setIfInBounds_toArray, List.set_cons_zero, List.set_cons_succ])) | ((with_reducible apply t_skip2 HM); exact rfl; exact rfl; infer_instance; (try simp only [Act.put, List.setIfInBounds_toArray, List.set_cons_zero, List.set_cons_succ])) | ((with_reducible apply t_pure); exact rfl; exact rfl; (focus (intro wv; go_simp; (try (go_ints; (try go_simp))); (first | done | rfl | (rw [if_pos (by omega)]; done)))); (try simp only [Act.put, List.setIfInBounds_toArray, List.set_cons_zero, List.set_cons_succ])))
        refine t_nil ?_
        go_wp2_with (first | go_step3 | ((with_reducible apply sl_want); exact rfl) | ((with_reducible apply sl_load HM); exact rfl; infer_instance; infer_instance; (try simp only [Act.put, List.setIfInBounds_toArray, List.set_cons_zero, List.set_cons_succ])) | ((with_reducible apply sl_store HM); exact rfl; (first | exact Ev.tmp rfl | exact Ev.const); infer_instance; infer_instance; infer_instance; clear HM; (try clear wq); intro wq HM; (try simp only [Act.put, List.setIfInBounds_toArray, List.set_cons_zero, List.set_cons_succ])) | ((with_reducible apply sl_loadR); exact rfl; assumption; (try simp only [Act.put, List.setIfInBounds_toArray, List.set_cons_zero, List.set_cons_succ])) | ((with_reducible apply sl_loadH HM); exact rfl; assumption; infer_instance; (try simp only [Act.put, List.setIfInBounds_toArray, List.set_cons_zero, List.set_cons_succ])) | ((with_reducible refine gate_dst (N := 4) rfl ?_); (with_reducible apply sl_box HM); (first | exact Ev.tmp rfl | exact Ev.const); exact rfl; clear HM; (try clear wq); intro g4 wq HM; (try simp only [Act.put, List.setIfInBounds_toArray, List.set_cons_zero, List.set_cons_succ])) | ((with_reducible refine gate_dst (N := 10) rfl ?_); (with_reducible apply sl_alloc HM); infer_instance; clear HM; (try clear wq); intro g10 wq HM; (try simp only [Act.put, List.setIfInBounds_toArray, List.set_cons_zero, List.set_cons_succ])))
        have HM1 := Mod.closeRow (n := n) (c := cR) (sz := 4) (xs := sents S.s (lateK an now S.rg (k + 1))) HM hc1 HC2.out (by rw [mid_len _ _ _ (by rw [HCL.out]; simp; omega), HCL.out]) (by
          rw [lateK_succ HX.out, E.out, set_due _ _ _ _ _ HX2.out, mid_take _ _ _ _ (by simp; omega) (by rw [HCL.out]; omega), HCT.out]
          rfl)
        exact ⟨⟨k + 1, rfl, hlt, ⟨HM1.sub⟩⟩, by simp only [intOf]; omega⟩
      · have E : Aside0 (x.late an now = x) := ⟨by unfold Sn.late; rw [if_neg hf]⟩
        have hff : decide (an < x.n) = false := decide_eq_false hf
        clear hf
        go_wp2_with (first | go_step3 | ((with_reducible apply sl_want); exact rfl) | ((with_reducible apply sl_load HM); exact rfl; infer_instance; infer_instance; (try simp only [Act.put, List.setIfInBounds_toArray, List.set_cons_zero, List.set_cons_succ])) | ((with_reducible apply sl_store HM); exact rfl; (first | exact Ev.tmp rfl | exact Ev.const); infer_instance; infer_instance; infer_instance; clear HM; (try clear wq); intro wq HM; (try simp only [Act.put, List.setIfInBounds_toArray, List.set_cons_zero, List.set_cons_succ])) | ((with_reducible apply sl_loadR); exact rfl; assumption; (try simp only [Act.put, List.setIfInBounds_toArray, List.set_cons_zero, List.set_cons_succ])) | ((with_reducible apply sl_loadH HM); exact rfl; assumption; infer_instance; (try simp only [Act.put, List.setIfInBounds_toArray, List.set_cons_zero, List.set_cons_succ])) | ((with_reducible refine gate_dst (N := 4) rfl ?_); (with_reducible apply sl_box HM); (first | exact Ev.tmp rfl | exact Ev.const); exact rfl; clear HM; (try clear wq); intro g4 wq HM; (try simp only [Act.put, List.setIfInBounds_toArray, List.set_cons_zero, List.set_cons_succ])) | ((with_reducible refine gate_dst (N := 10) rfl ?_); (with_reducible apply sl_alloc HM); infer_instance; clear HM; (try clear wq); intro g10 wq HM; (try simp only [Act.put, List.setIfInBounds_toArray, List.set_cons_zero, List.set_cons_succ])))
        refine wp_drawnS HM [] [(0, 1), (1, 1), (2, 1), (3, 0), (4, 1), (5, 1), (6, 1), (7, 1), (8, 0), (9, 1), (10, 0), (11, 1)] (by kernel_rfl) (by kernel_rfl) (by kernel_rfl) (by kernel_rfl) (fun _ _ d _ _ h => by cases d <;> exact h) ?_; clear HM; (try clear wq); intro wq HM
        repeat (first | ((with_reducible apply t_move); exact rfl; exact rfl; (first | exact Ev.tmp rfl | exact Ev.const); (try simp only [Act.put, List.setIfInBounds_toArray, List.set_cons_zero, List.set_cons_succ])) | ((with_reducible apply t_assign); exact rfl; exact rfl; (first | exact Ev.tmp rfl | exact Ev.const); (try simp only [Act.put, List.setIfInBounds_toArray, List.set_cons_zero, List.set_cons_succ])) | ((with_reducible apply t_load HM); exact rfl; exact rfl; exact rfl; infer_instance; infer_instance; infer_instance; (try simp only [Act.put, List.setIfInBounds_toArray, List.set_cons_zero, List.set_cons_succ])) | ((with_reducible apply t_loadH HM); exact rfl; exact rfl; exact rfl; assumption; infer_instance; infer_instance; (try simp only [Act.put, List.setIfInBounds_toArray, List.set_cons_zero, List.set_cons_succ])) | ((with_reducible apply t_skip); exact rfl; exact rfl; (try simp only [Act.put, List.setIfInBounds_toArray, List.set_cons_zero, List.set_cons_succ])) | ((with_reducible apply t_skip0 HM); exact rfl; exact rfl; infer_instance; (try simp only [Act.put, List.setIfInBounds_toArray, List.set_cons_zero, List.set_cons_succ])) | ((with_reducible apply t_skip2 HM); exact rfl; exact rfl; infer_instance; (try simp only [Act.put, List.setIfInBounds_toArray, List.set_cons_zero, List.set_cons_succ])) | ((with_reducible apply t_pure); exact rfl; exact rfl; (focus (intro wv; go_simp; (try (go_ints; (try go_simp))); (first | done | rfl | (rw [if_pos (by omega)]; done)))); (try simp only [Act.put, List.setIfInBounds_toArray, List.set_cons_zero, List.set_cons_succ])))
        refine t_nil ?_
        go_wp2_with (first | go_step3 | ((with_reducible apply sl_want); exact rfl) | ((with_reducible apply sl_load HM); exact rfl; infer_instance; infer_instance; (try simp only [Act.put, List.setIfInBounds_toArray, List.set_cons_zero, List.set_cons_succ])) | ((with_reducible apply sl_store HM); exact rfl; (first | exact Ev.tmp rfl | exact Ev.const); infer_instance; infer_instance; infer_instance; clear HM; (try clear wq); intro wq HM; (try simp only [Act.put, List.setIfInBounds_toArray, List.set_cons_zero, List.set_cons_succ])) | ((with_reducible apply sl_loadR); exact rfl; assumption; (try simp only [Act.put, List.setIfInBounds_toArray, List.set_cons_zero, List.set_cons_succ])) | ((with_reducible apply sl_loadH HM); exact rfl; assumption; infer_instance; (try simp only [Act.put, List.setIfInBounds_toArray, List.set_cons_zero, List.set_cons_succ])) | ((with_reducible refine gate_dst (N := 4) rfl ?_); (with_reducible apply sl_box HM); (first | exact Ev.tmp rfl | exact Ev.const); exact rfl; clear HM; (try clear wq); intro g4 wq HM; (try simp only [Act.put, List.setIfInBounds_toArray, List.set_cons_zero, List.set_cons_succ])) | ((with_reducible refine gate_dst (N := 10) rfl ?_); (with_reducible apply sl_alloc HM); infer_instance; clear HM; (try clear wq); intro g10 wq HM; (try simp only [Act.put, List.setIfInBounds_toArray, List.set_cons_zero, List.set_cons_succ])))
        have HM1 := Mod.closeRow (n := n) (c := cR) (sz := 4) (xs := sents S.s (lateK an now S.rg (k + 1))) HM hc1 HC2.out HCL.out (by
          rw [lateK_succ HX.out, E.out, set_same HX2.out, HCT.out])
        exact ⟨⟨k + 1, rfl, hlt, ⟨HM1.sub⟩⟩, by simp only [intOf]; omega⟩
    · have hkn : k = n := by omega
      subst hkn
      have HM := HM0.out
      clear HM0
      go_wp2_with (first | go_step3 | ((with_reducible apply sl_want); exact rfl) | ((with_reducible apply sl_load HM); exact rfl; infer_instance; infer_instance; (try simp only [Act.put, List.setIfInBounds_toArray, List.set_cons_zero, List.set_cons_succ])) | ((with_reducible apply sl_store HM); exact rfl; (first | exact Ev.tmp rfl | exact Ev.const); infer_instance; infer_instance; infer_instance; clear HM; (try clear wq); intro wq HM; (try simp only [Act.put, List.setIfInBounds_toArray, List.set_cons_zero, List.set_cons_succ])) | ((with_reducible apply sl_loadR); exact rfl; assumption; (try simp only [Act.put, List.setIfInBounds_toArray, List.set_cons_zero, List.set_cons_succ])) | ((with_reducible apply sl_loadH HM); exact rfl; assumption; infer_instance; (try simp only [Act.put, List.setIfInBounds_toArray, List.set_cons_zero, List.set_cons_succ])) | ((with_reducible refine gate_dst (N := 4) rfl ?_); (with_reducible apply sl_box HM); (first | exact Ev.tmp rfl | exact Ev.const); exact rfl; clear HM; (try clear wq); intro g4 wq HM; (try simp only [Act.put, List.setIfInBounds_toArray, List.set_cons_zero, List.set_cons_succ])) | ((with_reducible refine gate_dst (N := 10) rfl ?_); (with_reducible apply sl_alloc HM); infer_instance; clear HM; (try clear wq); intro g10 wq HM; (try simp only [Act.put, List.setIfInBounds_toArray, List.set_cons_zero, List.set_cons_succ])))
      have e1 : lateK an now S.rg k = S.rg.map (Sn.late an now) := by rw [HN.out, lateK_all]
      have e2 : S.rg.map Sn.own = (S.rg.map (Sn.late an now)).map Sn.own := by rw [← e1, lateK_own]
      have e3 : k = (S.rg.map (Sn.late an now)).length := by rw [List.length_map, HN.out]
      unfold gapL at HM
      rw [e1, e2, e3] at HM
      exact sl_ret1 rfl (vals_tmp rfl .nil) ⟨rfl, (Mod.closeSnd (gm := gm) (vQ := .slice AQ S.q.length cQ) (vR := .slice AR (S.rg.map (Sn.late an now)).length cR) HM.sub)⟩
end Go.Proofs.Ytghfoooldcbdnaa
set_option linter.unusedVariables false
set_option linter.unusedSimpArgs false
namespace Go.Proofs.Ytghfoooldcbdnaa
open Go.RowKit Go.Proofs.Ytghfoooldcbdnaa.SL Go.Proofs.YtghfoooldcbdnaaW.PrintWords

/-- Is a record refused? -/
def bitA (af : Int) (j : Nat) : Bool := (af / 2 ^ j) % 2 == 1
/-- What is known behind j records of a batch that is told of. -/
def tk (kn : List (Fl × Int × Int)) (an af : Int) (l : List Rec) : Nat → List (Fl × Int × Int)
  | 0 => kn
  | j + 1 => match l[j]? with
    | none => tk kn an af l j
    | some r => if kmk (tk kn an af l j) r.fl = (1, an) then kpt (tk kn an af l j) r.fl (if bitA af j = true then 3 else 2, an) else tk kn an af l j
def SS.take (S : SS) (as0 an : Int) (ag : Bool) (af now : Int) : SS × Bool :=
  if as0 = S.s then
    if ag = true then ({ S with rg := S.rg.map (Sn.late an now) }, true)
    else match idxR S.rg an with
      | none => (S, false)
      | some k => match S.rg[k]? with
        | none => (S, false)
        | some x => ({ S with rg := S.rg.eraseIdx k, kn := tk S.kn an af x.l x.l.length }, true)
  else (S, false)
set_option maxRecDepth 100000 in
theorem run_neq_mk (a b c d : Int) (w : World) : (binOp .neq 138 (.agg #[.int .i64 a, .int .i64 b]) (.agg #[.int .i64 c, .int .i64 d])).run Try.prog w = .ok (.bool (!decide ((a, b) = (c, d)))) w := by
  by_cases h1 : a = c
  · by_cases h2 : b = d
    · subst h1 h2
      go_simp
    · rw [show decide ((a, b) = (c, d)) = false by simp [h2]]
      subst h1
      go_simp
  · rw [show decide ((a, b) = (c, d)) = false by simp [h1]]
    go_simp
section
variable {ops : Array Oper} {a : Act} {Q : Exit → Act → World → Prop} {S : World → Prop} {w : World}
variable {dst : Option Tmp} {ty : TypeId} {pos : String} {after : Array Edge} {gd : Option (Nat × Bool)} {i : Nat} {p : List (Nat × Nat)}
theorem t_neqmk {x y : Operand} {b c d e : Int} {v : Bool} (hv : (!decide ((b, c) = (d, e))) = v) (ho : ops.toList[i]? = some ⟨dst, .binOp .neq 138 x y 138, ty, pos, after, gd⟩) (hw : Region.wanted ⟨dst, .binOp .neq 138 x y 138, ty, pos, after, gd⟩ (yielded ops a.tmps) = true)
    (hx : Ev a x (.agg #[.int .i64 b, .int .i64 c])) (hy : Ev a y (.agg #[.int .i64 d, .int .i64 e]))
    (k : wpT Try.prog ops Q S p (a.put dst (.bool v)) w) : wpT Try.prog ops Q S ((i, 1) :: p) a w :=
  t_pure ho hw (fun w => by
    subst hv
    have h := run_neq_mk b c d e w
    have hg : (eqGuard .neq 138 x y (.agg #[.int .i64 b, .int .i64 c]) (.agg #[.int .i64 d, .int .i64 e])).run Try.prog w = .ok () w := by
      unfold eqGuard
      go_simp
    simp only [execOp, hx.eq, hy.eq, Sem.run_bind, hg, h, Result.andThen_ok, Sem.run_pure]) k
end
set_option maxHeartbeats 4000000 in
set_option maxRecDepth 100000 in
theorem Take_none (g : Nat) (S : SS) (as0 an af now : Int) (hs : as0 = S.s) (hi : idxR S.rg an = none) (hl : S.rg.length ≤ 1000000) (B : Nat) (w0 w : World) (H : List As) (HM : SL.Mod B w0 (snd g S :: H) w) :
    Calls Try.prog 36 #[.pointer (some ⟨g, 0, none⟩), .agg (ansC as0 an false af).toArray, .int .i64 now] w fun e w' => e = .returned (.bool false) ∧ SL.Mod B w0 (snd g S :: H) w' := by
  subst hs
  obtain ⟨gm, AQ, cQ, AR, cR, HM1⟩ := Mod.openSnd HM
  clear HM
  have HM := HM1
  clear HM1
  have hd : (S.s != S.s) = false := by simp
  have HI : Aside0 (optIx (idxR S.rg an) = -1) := ⟨by rw [hi]; rfl⟩
  have HQ := Aside0.mk hl
  clear hi
  go_enter Try.func36, Try.ntmps36
  go_wp2_with (first | go_step3 | ((with_reducible apply sl_want); exact rfl) | ((with_reducible apply sl_load HM); exact rfl; infer_instance; infer_instance; (try simp only [Act.put, List.setIfInBounds_toArray, List.set_cons_zero, List.set_cons_succ])) | ((with_reducible apply sl_store HM); exact rfl; (first | exact Ev.tmp rfl | exact Ev.const); infer_instance; infer_instance; infer_instance; clear HM; (try clear wq); intro wq HM; (try simp only [Act.put, List.setIfInBounds_toArray, List.set_cons_zero, List.set_cons_succ])) | ((with_reducible apply sl_loadR); exact rfl; assumption; (try simp only [Act.put, List.setIfInBounds_toArray, List.set_cons_zero, List.set_cons_succ])) | ((with_reducible apply sl_loadH HM); exact rfl; assumption; infer_instance; (try simp only [Act.put, List.setIfInBounds_toArray, List.set_cons_zero, List.set_cons_succ])) | ((with_reducible refine gate_dst (N := 4) rfl ?_); (with_reducible apply sl_box HM); (first | exact Ev.tmp rfl | exact Ev.const); exact rfl; clear HM; (try clear wq); intro g4 wq HM; (try simp only [Act.put, List.setIfInBounds_toArray, List.set_cons_zero, List.set_cons_succ])) | ((with_reducible refine gate_dst (N := 10) rfl ?_); (with_reducible apply sl_alloc HM); infer_instance; clear HM; (try clear wq); intro g10 wq HM; (try simp only [Act.put, List.setIfInBounds_toArray, List.set_cons_zero, List.set_cons_succ])))
  refine wp_drawnS HM [] [(0, 1), (1, 0), (2, 1), (3, 1), (4, 1), (5, 0), (6, 1)] (by kernel_rfl) (by kernel_rfl) (by kernel_rfl) (by kernel_rfl) (fun _ _ d _ _ h => by cases d <;> exact h) ?_; clear HM; (try clear wq); intro wq HM
  repeat (first | ((with_reducible apply t_move); exact rfl; exact rfl; (first | exact Ev.tmp rfl | exact Ev.const); (try simp only [Act.put, List.setIfInBounds_toArray, List.set_cons_zero, List.set_cons_succ])) | ((with_reducible apply t_assign); exact rfl; exact rfl; (first | exact Ev.tmp rfl | exact Ev.const); (try simp only [Act.put, List.setIfInBounds_toArray, List.set_cons_zero, List.set_cons_succ])) | ((with_reducible apply t_load HM); exact rfl; exact rfl; exact rfl; infer_instance; infer_instance; infer_instance; (try simp only [Act.put, List.setIfInBounds_toArray, List.set_cons_zero, List.set_cons_succ])) | ((with_reducible apply t_loadH HM); exact rfl; exact rfl; exact rfl; assumption; infer_instance; infer_instance; (try simp only [Act.put, List.setIfInBounds_toArray, List.set_cons_zero, List.set_cons_succ])) | ((with_reducible apply t_skip); exact rfl; exact rfl; (try simp only [Act.put, List.setIfInBounds_toArray, List.set_cons_zero, List.set_cons_succ])) | ((with_reducible apply t_skip0 HM); exact rfl; exact rfl; infer_instance; (try simp only [Act.put, List.setIfInBounds_toArray, List.set_cons_zero, List.set_cons_succ])) | ((with_reducible apply t_skip2 HM); exact rfl; exact rfl; infer_instance; (try simp only [Act.put, List.setIfInBounds_toArray, List.set_cons_zero, List.set_cons_succ])) | ((with_reducible apply t_pure); exact rfl; exact rfl; (focus (intro wv; go_simp; (try (go_ints; (try go_simp))); (first | done | rfl | (rw [if_pos (by omega)]; done)))); (try simp only [Act.put, List.setIfInBounds_toArray, List.set_cons_zero, List.set_cons_succ])))
  refine t_nil ?_
  go_wp2_with first | (go_at_call 74; refine (indexR_calls S.s S.rg S.s an af false _ _ g4 HQ.out B w0 _ _ (fun w h => (ownsRow_reads (h.rowOwn (.slice AR S.rg.length cR))).1) HM).mono ?_; rintro e wq ⟨rfl, HM1⟩; clear HM; have HM := HM1; clear HM1; rw [HI.out]) | (first | go_step3 | ((with_reducible apply sl_want); exact rfl) | ((with_reducible apply sl_load HM); exact rfl; infer_instance; infer_instance; (try simp only [Act.put, List.setIfInBounds_toArray, List.set_cons_zero, List.set_cons_succ])) | ((with_reducible apply sl_store HM); exact rfl; (first | exact Ev.tmp rfl | exact Ev.const); infer_instance; infer_instance; infer_instance; clear HM; (try clear wq); intro wq HM; (try simp only [Act.put, List.setIfInBounds_toArray, List.set_cons_zero, List.set_cons_succ])) | ((with_reducible apply sl_loadR); exact rfl; assumption; (try simp only [Act.put, List.setIfInBounds_toArray, List.set_cons_zero, List.set_cons_succ])) | ((with_reducible apply sl_loadH HM); exact rfl; assumption; infer_instance; (try simp only [Act.put, List.setIfInBounds_toArray, List.set_cons_zero, List.set_cons_succ])) | ((with_reducible refine gate_dst (N := 4) rfl ?_); (with_reducible apply sl_box HM); (first | exact Ev.tmp rfl | exact Ev.const); exact rfl; clear HM; (try clear wq); intro g4 wq HM; (try simp only [Act.put, List.setIfInBounds_toArray, List.set_cons_zero, List.set_cons_succ])) | ((with_reducible refine gate_dst (N := 10) rfl ?_); (with_reducible apply sl_alloc HM); infer_instance; clear HM; (try clear wq); intro g10 wq HM; (try simp only [Act.put, List.setIfInBounds_toArray, List.set_cons_zero, List.set_cons_succ])))
  exact sl_ret1 rfl (vals_tmp rfl .nil) ⟨rfl, (Mod.closeSnd (gm := gm) (vQ := .slice AQ S.q.length cQ) (vR := .slice AR S.rg.length cR) HM.sub)⟩
end Go.Proofs.Ytghfoooldcbdnaa
