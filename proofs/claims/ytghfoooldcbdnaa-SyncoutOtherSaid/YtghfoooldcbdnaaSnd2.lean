/-
  THE SENDER OF PACKAGE syncout: Add.
-/
import Derived.Test.YtghfoooldcbdnaaSnd
set_option linter.unusedVariables false
set_option linter.unusedSimpArgs false
namespace Go.Proofs.Ytghfoooldcbdnaa
open Go.RowKit Go.Proofs.Ytghfoooldcbdnaa.SL Go.Proofs.YtghfoooldcbdnaaW.PrintWords

/-- Where a flow's record stands in a row. -/
def idxQ (q : List Rec) (f : Fl) : Option Nat := q.findIdx? (fun x => decide (x.fl = f))
def optIx : Option Nat → Int
  | some k => k
  | none => -1
theorem idx_none {q : List Rec} {f : Fl} (h : q.all (fun x => !decide (x.fl = f)) = true) : idxQ q f = none := by
  unfold idxQ
  rw [List.findIdx?_eq_none_iff]
  intro x hx
  have := List.all_eq_true.1 h x hx
  simpa using this
theorem idx_at {q : List Rec} {f : Fl} {k : Nat} {x : Rec} (h : (q.take k).all (fun x => !decide (x.fl = f)) = true) (hk : q[k]? = some x) (hx : x.fl = f) : idxQ q f = some k := by
  unfold idxQ
  rw [List.findIdx?_eq_some_iff_getElem]
  have hlt : k < q.length := (List.getElem?_eq_some_iff.1 hk).1
  refine ⟨hlt, ?_, fun j hj => ?_⟩
  · rw [List.getElem?_eq_getElem hlt] at hk
    injection hk with hk
    simp [hk, hx]
  · have h2 := List.all_eq_true.1 h (q[j]'(by omega)) (by
      rw [List.mem_take_iff_getElem]
      exact ⟨j, by omega, rfl⟩)
    simpa using h2
theorem idx_lt {q : List Rec} {f : Fl} {k : Nat} (h : idxQ q f = some k) : k < q.length := by
  unfold idxQ at h
  rw [List.findIdx?_eq_some_iff_getElem] at h
  exact h.1
theorem toList_iff {a b : ByteArray} : a.toList = b.toList ↔ a = b := ⟨toList_ext, fun h => by rw [h]⟩
set_option maxHeartbeats 2000000 in
set_option maxRecDepth 100000 in
theorem sameFlow_calls (x r : Rec) (g3 : Nat) (B : Nat) (w0 w : World) (H : List As) (HM : SL.Mod B w0 (cells g3 r.cells 53 :: H) w) :
    Calls Try.prog 67 #[.agg x.cells.toArray, .pointer (some ⟨g3, 0, none⟩)] w fun e w' => e = .returned (.bool (decide (x.fl = r.fl))) ∧ SL.Mod B w0 (cells g3 r.cells 53 :: H) w' := by
  by_cases h : x.fl = r.fl
  · have E : Aside0 (decide (x.fl = r.fl) = true) := ⟨decide_eq_true h⟩
    rw [E.out]
    obtain ⟨x0, x1, x2, x3, x4, x5, x6, x7⟩ := x
    obtain ⟨r0, r1, r2, r3, r4, r5, r6, r7⟩ := r
    simp only [Rec.fl, Fl.mk.injEq] at h
    obtain ⟨rfl, rfl, rfl, rfl, rfl⟩ := h
    clear E
    go_enter Try.func67, Try.ntmps67
    go_wp2_with (first | go_step3 | ((with_reducible apply sl_want); exact rfl) | ((with_reducible apply sl_load HM); exact rfl; infer_instance; infer_instance; (try simp only [Act.put, List.setIfInBounds_toArray, List.set_cons_zero, List.set_cons_succ])) | ((with_reducible apply sl_store HM); exact rfl; (first | exact Ev.tmp rfl | exact Ev.const); infer_instance; infer_instance; infer_instance; clear HM; (try clear wq); intro wq HM; (try simp only [Act.put, List.setIfInBounds_toArray, List.set_cons_zero, List.set_cons_succ])) | ((with_reducible apply sl_loadR); exact rfl; assumption; (try simp only [Act.put, List.setIfInBounds_toArray, List.set_cons_zero, List.set_cons_succ])) | ((with_reducible apply sl_loadH HM); exact rfl; assumption; infer_instance; (try simp only [Act.put, List.setIfInBounds_toArray, List.set_cons_zero, List.set_cons_succ])) | ((with_reducible refine gate_dst (N := 2) rfl ?_); (with_reducible apply sl_box HM); (first | exact Ev.tmp rfl | exact Ev.const); exact rfl; clear HM; (try clear wq); intro g2 wq HM; (try simp only [Act.put, List.setIfInBounds_toArray, List.set_cons_zero, List.set_cons_succ])))
    exact sl_ret1 rfl (vals_tmp rfl .nil) ⟨rfl, HM.sub⟩
  · have E : Aside0 (decide (x.fl = r.fl) = false) := ⟨decide_eq_false h⟩
    have HN : Aside0 (¬ (x.pr = r.pr ∧ x.fr.toList = r.fr.toList ∧ x.tt.toList = r.tt.toList ∧ x.po = r.po ∧ x.de = r.de)) := ⟨by
      rintro ⟨h0, h1, h2, h3, h4⟩
      apply h
      unfold Rec.fl
      rw [h0, toList_ext h1, toList_ext h2, h3, h4]⟩
    rw [E.out]
    clear h
    go_enter Try.func67, Try.ntmps67
    go_wp2_with (first | go_step3 | ((with_reducible apply sl_want); exact rfl) | ((with_reducible apply sl_load HM); exact rfl; infer_instance; infer_instance; (try simp only [Act.put, List.setIfInBounds_toArray, List.set_cons_zero, List.set_cons_succ])) | ((with_reducible apply sl_store HM); exact rfl; (first | exact Ev.tmp rfl | exact Ev.const); infer_instance; infer_instance; infer_instance; clear HM; (try clear wq); intro wq HM; (try simp only [Act.put, List.setIfInBounds_toArray, List.set_cons_zero, List.set_cons_succ])) | ((with_reducible apply sl_loadR); exact rfl; assumption; (try simp only [Act.put, List.setIfInBounds_toArray, List.set_cons_zero, List.set_cons_succ])) | ((with_reducible apply sl_loadH HM); exact rfl; assumption; infer_instance; (try simp only [Act.put, List.setIfInBounds_toArray, List.set_cons_zero, List.set_cons_succ])) | ((with_reducible refine gate_dst (N := 2) rfl ?_); (with_reducible apply sl_box HM); (first | exact Ev.tmp rfl | exact Ev.const); exact rfl; clear HM; (try clear wq); intro g2 wq HM; (try simp only [Act.put, List.setIfInBounds_toArray, List.set_cons_zero, List.set_cons_succ])))
    all_goals first | exact sl_ret1 rfl (vals_tmp rfl .nil) ⟨rfl, HM.sub⟩ | (exfalso; exact HN.out ⟨‹_›, ‹_›, ‹_›, ‹_›, ‹_›⟩)

set_option maxHeartbeats 2000000 in
set_option maxRecDepth 100000 in
theorem indexQ_calls (q : List Rec) (r : Rec) (A : Option Addr) (c g3 : Nat) (hl : q.length ≤ 1000000) (B : Nat) (w0 w : World) (H : List As) (hr : ∀ w, SL.Mod B w0 (cells g3 r.cells 53 :: H) w → Reads w A (recs q)) (HM : SL.Mod B w0 (cells g3 r.cells 53 :: H) w) :
    Calls Try.prog 66 #[.slice A q.length c, .func (.func 67) #[] #[.pointer (some ⟨g3, 0, none⟩)]] w fun e w' => e = .returned (.int .i64 (optIx (idxQ q r.fl))) ∧ SL.Mod B w0 (cells g3 r.cells 53 :: H) w' := by
  have HR := Aside0.mk hr
  clear hr
  go_enter Try.func66, Try.ntmps66
  go_wp2_with (first | go_step3 | ((with_reducible apply sl_want); exact rfl) | ((with_reducible apply sl_load HM); exact rfl; infer_instance; infer_instance; (try simp only [Act.put, List.setIfInBounds_toArray, List.set_cons_zero, List.set_cons_succ])) | ((with_reducible apply sl_store HM); exact rfl; (first | exact Ev.tmp rfl | exact Ev.const); infer_instance; infer_instance; infer_instance; clear HM; (try clear wq); intro wq HM; (try simp only [Act.put, List.setIfInBounds_toArray, List.set_cons_zero, List.set_cons_succ])) | ((with_reducible apply sl_loadR); exact rfl; assumption; (try simp only [Act.put, List.setIfInBounds_toArray, List.set_cons_zero, List.set_cons_succ])) | ((with_reducible apply sl_loadH HM); exact rfl; assumption; infer_instance; (try simp only [Act.put, List.setIfInBounds_toArray, List.set_cons_zero, List.set_cons_succ])))
  go_loopw [5, 8] (fun v5 v8 wr => ∃ k : Nat, v8 = .int .i64 k ∧ k ≤ q.length ∧ Aside0 ((q.take k).all (fun x => !decide (x.fl = r.fl)) = true) ∧ Aside0 (SL.Mod B w0 (cells g3 r.cells 53 :: H) wr)) (fun _ v8 _ => q.length - (intOf v8).toNat)
  case atStart => exact ⟨0, rfl, by omega, ⟨rfl⟩, ⟨HM⟩⟩
  case round =>
    obtain ⟨k, rfl, hk, HA, HM0⟩ := hrel
    clear HM
    have HM := HM0.out
    clear HM0
    by_cases hlt : k < q.length
    · obtain ⟨ad, rfl⟩ := (HR.out _ HM).addr (by rw [flat_len rec_len]; omega)
      obtain ⟨x, hx⟩ : ∃ x, q[k]? = some x := ⟨_, List.getElem?_eq_getElem hlt⟩
      have hld : Aside0 (∀ w', SL.Mod B w0 (cells g3 r.cells 53 :: H) w' → Sem.run Try.prog (Instr.loadAt 53 (.pointer (some (ad.add (k * 8))))) w' = .ok (.agg x.cells.toArray) w') := ⟨fun w' h => load_seg (HR.out _ h) (k * 8) (flat_seg rec_len q k x hx) (rec_len x)⟩
      have HX := Aside0.mk hx
      clear hx
      by_cases hf : x.fl = r.fl
      · have E : Aside0 (decide (x.fl = r.fl) = true) := ⟨decide_eq_true hf⟩
        have E2 : Aside0 (idxQ q r.fl = some k) := ⟨idx_at HA.out HX.out hf⟩
        clear hf
        go_wp2_with first | (go_at_call 67; refine (sameFlow_calls x r g3 B w0 _ H HM).mono ?_; rintro e wq ⟨rfl, HM1⟩; clear HM; have HM := HM1; clear HM1; rw [E.out]) | (first | go_step3 | ((with_reducible apply sl_want); exact rfl) | ((with_reducible apply sl_load HM); exact rfl; infer_instance; infer_instance; (try simp only [Act.put, List.setIfInBounds_toArray, List.set_cons_zero, List.set_cons_succ])) | ((with_reducible apply sl_store HM); exact rfl; (first | exact Ev.tmp rfl | exact Ev.const); infer_instance; infer_instance; infer_instance; clear HM; (try clear wq); intro wq HM; (try simp only [Act.put, List.setIfInBounds_toArray, List.set_cons_zero, List.set_cons_succ])) | ((with_reducible apply sl_loadR); exact rfl; assumption; (try simp only [Act.put, List.setIfInBounds_toArray, List.set_cons_zero, List.set_cons_succ])) | ((with_reducible apply sl_loadH HM); exact rfl; assumption; infer_instance; (try simp only [Act.put, List.setIfInBounds_toArray, List.set_cons_zero, List.set_cons_succ])))
        exact sl_ret1 rfl (vals_tmp rfl .nil) ⟨by rw [E2.out]; rfl, HM⟩
      · have E : Aside0 (decide (x.fl = r.fl) = false) := ⟨decide_eq_false hf⟩
        clear hf
        go_wp2_with first | (go_at_call 67; refine (sameFlow_calls x r g3 B w0 _ H HM).mono ?_; rintro e wq ⟨rfl, HM1⟩; clear HM; have HM := HM1; clear HM1; rw [E.out]) | (first | go_step3 | ((with_reducible apply sl_want); exact rfl) | ((with_reducible apply sl_load HM); exact rfl; infer_instance; infer_instance; (try simp only [Act.put, List.setIfInBounds_toArray, List.set_cons_zero, List.set_cons_succ])) | ((with_reducible apply sl_store HM); exact rfl; (first | exact Ev.tmp rfl | exact Ev.const); infer_instance; infer_instance; infer_instance; clear HM; (try clear wq); intro wq HM; (try simp only [Act.put, List.setIfInBounds_toArray, List.set_cons_zero, List.set_cons_succ])) | ((with_reducible apply sl_loadR); exact rfl; assumption; (try simp only [Act.put, List.setIfInBounds_toArray, List.set_cons_zero, List.set_cons_succ])) | ((with_reducible apply sl_loadH HM); exact rfl; assumption; infer_instance; (try simp only [Act.put, List.setIfInBounds_toArray, List.set_cons_zero, List.set_cons_succ])))
        refine ⟨⟨k + 1, rfl, hlt, ⟨?_⟩, ⟨HM⟩⟩, by simp only [intOf]; omega⟩
        rw [List.take_add_one, HX.out, List.all_append, HA.out]
        simp [E.out]
    · have hkl : k = q.length := by omega
      subst hkl
      have E2 : Aside0 (idxQ q r.fl = none) := ⟨idx_none (by have := HA.out; rwa [List.take_length] at this)⟩
      go_wp2_with (first | go_step3 | ((with_reducible apply sl_want); exact rfl) | ((with_reducible apply sl_load HM); exact rfl; infer_instance; infer_instance; (try simp only [Act.put, List.setIfInBounds_toArray, List.set_cons_zero, List.set_cons_succ])) | ((with_reducible apply sl_store HM); exact rfl; (first | exact Ev.tmp rfl | exact Ev.const); infer_instance; infer_instance; infer_instance; clear HM; (try clear wq); intro wq HM; (try simp only [Act.put, List.setIfInBounds_toArray, List.set_cons_zero, List.set_cons_succ])) | ((with_reducible apply sl_loadR); exact rfl; assumption; (try simp only [Act.put, List.setIfInBounds_toArray, List.set_cons_zero, List.set_cons_succ])) | ((with_reducible apply sl_loadH HM); exact rfl; assumption; infer_instance; (try simp only [Act.put, List.setIfInBounds_toArray, List.set_cons_zero, List.set_cons_succ])))
      exact sl_ret1 rfl (vals_tmp rfl .nil) ⟨by rw [E2.out]; rfl, HM⟩

section
variable {ops : Array Oper} {a : Act} {Q : Exit → Act → World → Prop} {B : Nat} {w0 w : World} {H : List As}
/-- A map is to be written in the region: the reads stand on the rest. -/
theorem wp_drawnK {id : Nat} (HM : SL.Mod B w0 H w) (g : Nat) {ps : List (Fl × List Value)} {R : List As} [hv : KM H g ps R] (ds : List Nat) (p : List (Nat × Nat)) (hm : Try.prog.follows .mixedOrders = true) (hs : Region.noSelect ops = true) (hl : decide (p.length ≤ ops.size) = true)
    (hok : okT .any ops ds p (Array.replicate ops.size false) = true)
    (hQ : ∀ c a d v w, Q (.panic c) (Act.put a d v) w → Q (.panic c) a w) (h : ∀ w', SL.Mod B w0 (kmap g ps :: R) w' → wpT Try.prog ops Q (SL.Mod B w0 R) p a w') : (Code.region id ops true).wp Try.prog Q a w :=
  wp_drawnM (Mod.pickMap HM g) R ds p hm hs hl hok hQ h
end
/-- What Add makes of a sender. -/
def SS.add (S : SS) (r : Rec) : SS × Bool :=
  if r.ok = true then match idxQ S.q r.fl with
    | some k => ({ S with q := S.q.set k r, kn := kpt S.kn r.fl (1, 0) }, true)
    | none => if 256 ≤ S.q.length then (S, false) else ({ S with q := S.q ++ [r], kn := kpt S.kn r.fl (1, 0) }, true)
  else (S, false)
def AddPost (g : Nat) (S : SS) (r : Rec) (B : Nat) (w0 : World) (H : List As) (e : Ending) (w' : World) : Prop := e = .returned (.bool (S.add r).2) ∧ SL.Mod B w0 (snd g (S.add r).1 :: H) w'
theorem recs_len (q : List Rec) : (recs q).length = q.length * 8 := flat_len rec_len q
theorem set_recs : ∀ (q : List Rec) (k : Nat) (r : Rec), k < q.length → recs (q.set k r) = (recs q).take (k * 8) ++ r.cells ++ (recs q).drop (k * 8 + 8)
  | [], k, r, h => by simp at h
  | x :: q, 0, r, _ => by
    simp only [recs, List.set_cons_zero, List.flatMap_cons, Nat.zero_mul, List.take_zero, List.nil_append, Nat.zero_add]
    congr 1
  | x :: q, k + 1, r, h => by
    have h1 := set_recs q k r (by simpa using h)
    simp only [recs, List.set_cons_succ, List.flatMap_cons] at h1 ⊢
    rw [h1]
    have e1 : (k + 1) * 8 = x.cells.length + k * 8 := by rw [rec_len]; omega
    have e2 : (k + 1) * 8 + 8 = x.cells.length + (k * 8 + 8) := by rw [rec_len]; omega
    rw [e2, e1, List.take_append, List.drop_append, List.take_of_length_le (l := x.cells) (by omega), List.drop_eq_nil_of_le (show x.cells.length ≤ x.cells.length + (k * 8 + 8) by omega), List.nil_append]
    simp only [Nat.add_sub_cancel_left, List.append_assoc]
/-- A piece of a block, written over. -/
theorem put_mid (cs vs : List Value) (off : Nat) (h : off + vs.length ≤ cs.length) : PutAt cs off vs (cs.take off ++ vs ++ cs.drop (off + vs.length)) := ⟨⟨rfl, h⟩⟩
theorem rowLen {B : Nat} {w0 w : World} {H : List As} {v : Value} {e : TypeId} {sz n n' : Nat} {xs : List Value} (h : SL.Mod B w0 (row v e sz n xs :: H) w) (hn : n = n') : SL.Mod B w0 (row v e sz n' xs :: H) w := hn ▸ h
theorem mid_len (cs vs : List Value) (off : Nat) (h : off + vs.length ≤ cs.length) : (cs.take off ++ vs ++ cs.drop (off + vs.length)).length = cs.length := by
  simp only [List.length_append, List.length_take, List.length_drop]
  omega
theorem mid_take (cs vs : List Value) (off m : Nat) (h : off + vs.length ≤ m) (hm : m ≤ cs.length) : (cs.take off ++ vs ++ cs.drop (off + vs.length)).take m = (cs.take m).take off ++ vs ++ (cs.take m).drop (off + vs.length) := by
  have e1 : (cs.take off).length = off := by rw [List.length_take]; omega
  rw [List.append_assoc, List.take_append, e1, List.take_append, List.take_of_length_le (l := cs.take off) (by omega), List.take_of_length_le (l := vs) (by omega), List.take_take, Nat.min_eq_left (by omega), List.drop_take, List.append_assoc]
  congr 3
  omega
set_option maxHeartbeats 4000000 in
set_option maxRecDepth 100000 in
theorem Add_calls (g : Nat) (S : SS) (r : Rec) (hq : S.q.length ≤ 256) (h1 : r.fr.size ≤ maxLen) (h2 : r.tt.size ≤ maxLen) (B : Nat) (w0 w : World) (H : List As) (HM : SL.Mod B w0 (snd g S :: H) w) :
    Calls Try.prog 33 #[.pointer (some ⟨g, 0, none⟩), .agg r.cells.toArray] w (AddPost g S r B w0 H) := by
  obtain ⟨gm, AQ, cQ, AR, cR, HM1⟩ := Mod.openSnd HM
  clear HM
  have HM := HM1
  clear HM1
  have HF := Aside0.mk h1
  have HT := Aside0.mk h2
  have HQ : Aside0 (S.q.length ≤ 1000000) := ⟨by omega⟩
  clear h1 h2
  by_cases hok : r.ok = true
  · cases hi : idxQ S.q r.fl with
    | none =>
      by_cases hlen : 256 ≤ S.q.length
      · have E : Aside0 (S.add r = (S, false)) := ⟨by unfold SS.add; rw [if_pos hok, hi]; dsimp only; rw [if_pos hlen]⟩
        unfold AddPost
        rw [E.out]
        have HI : Aside0 (optIx (idxQ S.q r.fl) = -1) := ⟨by rw [hi]; rfl⟩
        have hd : decide (256 ≤ (S.q.length : Int)) = true := decide_eq_true (by omega)
        clear hi
        go_enter Try.func33, Try.ntmps33
        go_wp2_with first | (go_at_call 66; refine (indexQ_calls S.q r _ _ g3 HQ.out B w0 _ _ (fun w h => (ownsRow_reads (h.rowOwn (.slice AQ S.q.length cQ))).1) HM).mono ?_; rintro e wq ⟨rfl, HM1⟩; clear HM; have HM := HM1; clear HM1; rw [HI.out]) | (go_at_call 68; (with_reducible refine (Right_calls r HF.out HT.out _).mono ?_); rintro e wq ⟨rfl, hj⟩; have HM1 := HM.step hj.below; clear HM hj; have HM := HM1; clear HM1) | (first | go_step3 | ((with_reducible apply sl_want); exact rfl) | ((with_reducible apply sl_load HM); exact rfl; infer_instance; infer_instance; (try simp only [Act.put, List.setIfInBounds_toArray, List.set_cons_zero, List.set_cons_succ])) | ((with_reducible apply sl_store HM); exact rfl; (first | exact Ev.tmp rfl | exact Ev.const); infer_instance; infer_instance; infer_instance; clear HM; (try clear wq); intro wq HM; (try simp only [Act.put, List.setIfInBounds_toArray, List.set_cons_zero, List.set_cons_succ])) | ((with_reducible apply sl_loadR); exact rfl; assumption; (try simp only [Act.put, List.setIfInBounds_toArray, List.set_cons_zero, List.set_cons_succ])) | ((with_reducible apply sl_loadH HM); exact rfl; assumption; infer_instance; (try simp only [Act.put, List.setIfInBounds_toArray, List.set_cons_zero, List.set_cons_succ])) | ((with_reducible refine gate_dst (N := 3) rfl ?_); (with_reducible apply sl_box HM); (first | exact Ev.tmp rfl | exact Ev.const); exact rfl; clear HM; (try clear wq); intro g3 wq HM; (try simp only [Act.put, List.setIfInBounds_toArray, List.set_cons_zero, List.set_cons_succ])) | ((with_reducible refine gate_dst (N := 18) rfl ?_); (with_reducible apply sl_lit HM); (focus (go_simp; (try rfl); done)); clear HM; (try clear wq); intro g18 wq HM; (try simp only [Act.put, List.setIfInBounds_toArray, List.set_cons_zero, List.set_cons_succ])) | ((with_reducible refine gate_dst (N := 19) rfl ?_); (with_reducible apply sl_append_lit HM); (first | exact Ev.tmp rfl | exact Ev.const); infer_instance; (first | exact Ev.tmp rfl | exact Ev.const); infer_instance; infer_instance; exact rfl; infer_instance; (first | omega | (simp only [List.length_append, List.length_cons, List.length_nil] at *; omega)); clear HM; (try clear wq); intro v19 wq HM; (try simp only [Act.put, List.setIfInBounds_toArray, List.set_cons_zero, List.set_cons_succ]); haveI := HM.rowOne v19))
        exact sl_ret1 rfl (vals_tmp rfl .nil) ⟨rfl, (Mod.closeSnd (gm := gm) (vQ := .slice AQ S.q.length cQ) (vR := .slice AR S.rg.length cR) HM.sub)⟩
      · have E : Aside0 (S.add r = ({ S with q := S.q ++ [r], kn := kpt S.kn r.fl (1, 0) }, true)) := ⟨by unfold SS.add; rw [if_pos hok, hi]; dsimp only; rw [if_neg hlen]⟩
        unfold AddPost
        rw [E.out]
        have HI : Aside0 (optIx (idxQ S.q r.fl) = -1) := ⟨by rw [hi]; rfl⟩
        have hd : decide (256 ≤ (S.q.length : Int)) = false := decide_eq_false (by omega)
        clear hi
        go_enter Try.func33, Try.ntmps33
        go_wp2_with first | (go_at_call 66; refine (indexQ_calls S.q r _ _ g3 HQ.out B w0 _ _ (fun w h => (ownsRow_reads (h.rowOwn (.slice AQ S.q.length cQ))).1) HM).mono ?_; rintro e wq ⟨rfl, HM1⟩; clear HM; have HM := HM1; clear HM1; rw [HI.out]) | (go_at_call 68; (with_reducible refine (Right_calls r HF.out HT.out _).mono ?_); rintro e wq ⟨rfl, hj⟩; have HM1 := HM.step hj.below; clear HM hj; have HM := HM1; clear HM1) | (first | go_step3 | ((with_reducible apply sl_want); exact rfl) | ((with_reducible apply sl_load HM); exact rfl; infer_instance; infer_instance; (try simp only [Act.put, List.setIfInBounds_toArray, List.set_cons_zero, List.set_cons_succ])) | ((with_reducible apply sl_store HM); exact rfl; (first | exact Ev.tmp rfl | exact Ev.const); infer_instance; infer_instance; infer_instance; clear HM; (try clear wq); intro wq HM; (try simp only [Act.put, List.setIfInBounds_toArray, List.set_cons_zero, List.set_cons_succ])) | ((with_reducible apply sl_loadR); exact rfl; assumption; (try simp only [Act.put, List.setIfInBounds_toArray, List.set_cons_zero, List.set_cons_succ])) | ((with_reducible apply sl_loadH HM); exact rfl; assumption; infer_instance; (try simp only [Act.put, List.setIfInBounds_toArray, List.set_cons_zero, List.set_cons_succ])) | ((with_reducible refine gate_dst (N := 3) rfl ?_); (with_reducible apply sl_box HM); (first | exact Ev.tmp rfl | exact Ev.const); exact rfl; clear HM; (try clear wq); intro g3 wq HM; (try simp only [Act.put, List.setIfInBounds_toArray, List.set_cons_zero, List.set_cons_succ])) | ((with_reducible refine gate_dst (N := 18) rfl ?_); (with_reducible apply sl_lit HM); (focus (go_simp; (try rfl); done)); clear HM; (try clear wq); intro g18 wq HM; (try simp only [Act.put, List.setIfInBounds_toArray, List.set_cons_zero, List.set_cons_succ])) | ((with_reducible refine gate_dst (N := 19) rfl ?_); (with_reducible apply sl_append_lit HM); (first | exact Ev.tmp rfl | exact Ev.const); infer_instance; (first | exact Ev.tmp rfl | exact Ev.const); infer_instance; infer_instance; exact rfl; infer_instance; (first | omega | (simp only [List.length_append, List.length_cons, List.length_nil] at *; omega)); clear HM; (try clear wq); intro v19 wq HM; (try simp only [Act.put, List.setIfInBounds_toArray, List.set_cons_zero, List.set_cons_succ]); haveI := HM.rowOne v19))
        refine wp_drawnR HM (.slice AQ S.q.length cQ) [10] [(0, 1), (1, 1), (2, 1), (3, 1), (4, 0), (5, 0), (6, 2), (7, 2), (8, 1), (9, 1), (10, 3)] (by kernel_rfl) (by kernel_rfl) (by kernel_rfl) (by kernel_rfl) (fun _ _ d _ _ h => by cases d <;> exact h) ?_; clear HM; (try clear wq); intro wq HM
        repeat (first | ((with_reducible refine t_at (n := 10) rfl ?_); haveI := HM.rowOne v19; ((with_reducible apply t_last); exact rfl; exact rfl; intro K hK; (with_reducible apply ow_store HM); exact rfl; (first | exact Ev.tmp rfl | exact Ev.const); infer_instance; infer_instance; infer_instance; clear HM; (try clear wq); intro  wq HM; refine hK _ _ ?_; clear hK K; (try simp only [Act.put, List.setIfInBounds_toArray, List.set_cons_zero, List.set_cons_succ]))) | ((with_reducible apply t_move); exact rfl; exact rfl; (first | exact Ev.tmp rfl | exact Ev.const); (try simp only [Act.put, List.setIfInBounds_toArray, List.set_cons_zero, List.set_cons_succ])) | ((with_reducible apply t_assign); exact rfl; exact rfl; (first | exact Ev.tmp rfl | exact Ev.const); (try simp only [Act.put, List.setIfInBounds_toArray, List.set_cons_zero, List.set_cons_succ])) | ((with_reducible apply t_load HM); exact rfl; exact rfl; exact rfl; infer_instance; infer_instance; infer_instance; (try simp only [Act.put, List.setIfInBounds_toArray, List.set_cons_zero, List.set_cons_succ])) | ((with_reducible apply t_loadH HM); exact rfl; exact rfl; exact rfl; assumption; infer_instance; infer_instance; (try simp only [Act.put, List.setIfInBounds_toArray, List.set_cons_zero, List.set_cons_succ])) | ((with_reducible apply t_skip); exact rfl; exact rfl; (try simp only [Act.put, List.setIfInBounds_toArray, List.set_cons_zero, List.set_cons_succ])) | ((with_reducible apply t_skip0 HM); exact rfl; exact rfl; infer_instance; (try simp only [Act.put, List.setIfInBounds_toArray, List.set_cons_zero, List.set_cons_succ])) | ((with_reducible apply t_skip2 HM); exact rfl; exact rfl; infer_instance; (try simp only [Act.put, List.setIfInBounds_toArray, List.set_cons_zero, List.set_cons_succ])) | ((with_reducible apply t_pure); exact rfl; exact rfl; (focus (intro wv; go_simp; (try (go_ints; (try go_simp))); (first | done | rfl | (rw [if_pos (by omega)]; done)))); (try simp only [Act.put, List.setIfInBounds_toArray, List.set_cons_zero, List.set_cons_succ])) | ((with_reducible apply t_eff); exact rfl; exact rfl; intro K hK; (with_reducible apply ow_lit HM); (focus (go_simp; (try rfl); done)); clear HM; (try clear wq); intro g18 wq HM; refine hK _ _ _ HM inferInstance ?_; clear hK K; (try simp only [Act.put, List.setIfInBounds_toArray, List.set_cons_zero, List.set_cons_succ])) | ((with_reducible refine t_at (n := 7) rfl ?_); ((with_reducible apply t_eff); exact rfl; exact rfl; intro K hK; (with_reducible apply ow_append_lit HM); (first | exact Ev.tmp rfl | exact Ev.const); infer_instance; (first | exact Ev.tmp rfl | exact Ev.const); infer_instance; infer_instance; exact rfl; infer_instance; (first | omega | (simp only [List.length_append, List.length_cons, List.length_nil] at *; omega)); clear HM; (try clear wq); intro v19 wq HM; refine hK _ _ _ HM inferInstance ?_; clear hK K; (try simp only [Act.put, List.setIfInBounds_toArray, List.set_cons_zero, List.set_cons_succ]))) | ((with_reducible apply t_eff); exact rfl; exact rfl; intro K hK; (with_reducible apply ow_store HM); exact rfl; (first | exact Ev.tmp rfl | exact Ev.const); infer_instance; infer_instance; infer_instance; clear HM; (try clear wq); intro  wq HM; refine hK _ _ _ HM inferInstance ?_; clear hK K; (try simp only [Act.put, List.setIfInBounds_toArray, List.set_cons_zero, List.set_cons_succ])) | ((with_reducible apply t_last); exact rfl; exact rfl; intro K hK; (with_reducible apply ow_store HM); exact rfl; (first | exact Ev.tmp rfl | exact Ev.const); infer_instance; infer_instance; infer_instance; clear HM; (try clear wq); intro  wq HM; refine hK _ _ ?_; clear hK K; (try simp only [Act.put, List.setIfInBounds_toArray, List.set_cons_zero, List.set_cons_succ])))
        refine t_nil ?_
        go_wp2_with (fail)
        refine wp_drawnK HM gm [] [(0, 1), (1, 1), (2, 1), (3, 0), (4, 1), (5, 0), (6, 1), (7, 2)] (by kernel_rfl) (by kernel_rfl) (by kernel_rfl) (by kernel_rfl) (fun _ _ d _ _ h => by cases d <;> exact h) ?_; clear HM; (try clear wq); intro wq HM
        repeat (first | ((with_reducible refine t_at (n := 7) rfl ?_); (with_reducible apply t_eff); exact rfl; exact rfl; intro K hK; (with_reducible apply ow_kpt HM (r.fl) (1) (0)); (first | exact Ev.tmp rfl | exact Ev.const); (first | exact Ev.tmp rfl | exact Ev.const); (first | exact Ev.tmp rfl | exact Ev.const); infer_instance; clear HM; (try clear wq); intro wq HM; refine hK _ _ _ HM inferInstance ?_; clear hK K; (try simp only [Act.put, List.setIfInBounds_toArray, List.set_cons_zero, List.set_cons_succ])) | ((with_reducible apply t_move); exact rfl; exact rfl; (first | exact Ev.tmp rfl | exact Ev.const); (try simp only [Act.put, List.setIfInBounds_toArray, List.set_cons_zero, List.set_cons_succ])) | ((with_reducible apply t_assign); exact rfl; exact rfl; (first | exact Ev.tmp rfl | exact Ev.const); (try simp only [Act.put, List.setIfInBounds_toArray, List.set_cons_zero, List.set_cons_succ])) | ((with_reducible apply t_load HM); exact rfl; exact rfl; exact rfl; infer_instance; infer_instance; infer_instance; (try simp only [Act.put, List.setIfInBounds_toArray, List.set_cons_zero, List.set_cons_succ])) | ((with_reducible apply t_loadH HM); exact rfl; exact rfl; exact rfl; assumption; infer_instance; infer_instance; (try simp only [Act.put, List.setIfInBounds_toArray, List.set_cons_zero, List.set_cons_succ])) | ((with_reducible apply t_skip); exact rfl; exact rfl; (try simp only [Act.put, List.setIfInBounds_toArray, List.set_cons_zero, List.set_cons_succ])) | ((with_reducible apply t_skip0 HM); exact rfl; exact rfl; infer_instance; (try simp only [Act.put, List.setIfInBounds_toArray, List.set_cons_zero, List.set_cons_succ])) | ((with_reducible apply t_skip2 HM); exact rfl; exact rfl; infer_instance; (try simp only [Act.put, List.setIfInBounds_toArray, List.set_cons_zero, List.set_cons_succ])) | ((with_reducible apply t_pure); exact rfl; exact rfl; (focus (intro wv; go_simp; (try (go_ints; (try go_simp))); (first | done | rfl | (rw [if_pos (by omega)]; done)))); (try simp only [Act.put, List.setIfInBounds_toArray, List.set_cons_zero, List.set_cons_succ])))
        refine t_nil ?_
        go_wp2_with (fail)
        have e1 : recs S.q ++ r.cells = recs (S.q ++ [r]) := by simp [recs, List.flatMap_append]
        have e2 : S.q.length + 1 = (S.q ++ [r]).length := by simp
        rw [e1, e2] at HM
        exact sl_ret1 rfl (vals_tmp rfl .nil) ⟨rfl, (Mod.closeSnd (gm := gm) (vQ := v19) (vR := .slice AR S.rg.length cR) HM.sub)⟩
    | some k =>
      have hk := idx_lt hi
      have E : Aside0 (S.add r = ({ S with q := S.q.set k r, kn := kpt S.kn r.fl (1, 0) }, true)) := ⟨by unfold SS.add; rw [if_pos hok, hi]⟩
      unfold AddPost
      rw [E.out]
      have HI : Aside0 (optIx (idxQ S.q r.fl) = k) := ⟨by rw [hi]; rfl⟩
      obtain ⟨ad, rfl⟩ : ∃ ad, AQ = some ad := (ownsRow_reads (HM.rowOwn (.slice AQ S.q.length cQ))).1.addr (by rw [recs_len]; omega)
      obtain ⟨gQ, cs, rfl, HM1, _, hc1, hc2, hcl, hct⟩ := Mod.openRow (HM.pickRow (.slice (some ad) S.q.length cQ))
      clear HM
      have HM := HM1
      clear HM1
      have HCT := Aside0.mk hct
      have HCL := Aside0.mk hcl
      have HC1 := Aside0.mk hc1
      have HC2 := Aside0.mk hc2
      have HRD : Aside0 (∀ w', SL.Mod B w0 [cells gQ cs 53] w' → Reads w' (some ⟨gQ, 0, none⟩) (recs S.q)) := ⟨fun w' h => by
        rw [← HCT.out]
        exact Reads.take (fun j u hu => ⟨_, rfl, cells_at (h.has gQ) j u hu⟩) _⟩
      haveI := put_mid cs r.cells (k * 8) (by rw [rec_len, hcl]; omega)
      have hq0 : decide ((k : Int) < 0) = false := decide_eq_false (by omega)
      clear hi hct hcl hc1 hc2
      go_enter Try.func33, Try.ntmps33
      go_wp2_with first | (go_at_call 66; refine (indexQ_calls S.q r _ _ g3 HQ.out B w0 _ _ (fun w h => HRD.out w h.sub) HM).mono ?_; rintro e wq ⟨rfl, HM1⟩; clear HM; have HM := HM1; clear HM1; rw [HI.out]) | (go_at_call 68; (with_reducible refine (Right_calls r HF.out HT.out _).mono ?_); rintro e wq ⟨rfl, hj⟩; have HM1 := HM.step hj.below; clear HM hj; have HM := HM1; clear HM1) | (first | go_step3 | ((with_reducible apply sl_want); exact rfl) | ((with_reducible apply sl_load HM); exact rfl; infer_instance; infer_instance; (try simp only [Act.put, List.setIfInBounds_toArray, List.set_cons_zero, List.set_cons_succ])) | ((with_reducible apply sl_store HM); exact rfl; (first | exact Ev.tmp rfl | exact Ev.const); infer_instance; infer_instance; infer_instance; clear HM; (try clear wq); intro wq HM; (try simp only [Act.put, List.setIfInBounds_toArray, List.set_cons_zero, List.set_cons_succ])) | ((with_reducible apply sl_loadR); exact rfl; assumption; (try simp only [Act.put, List.setIfInBounds_toArray, List.set_cons_zero, List.set_cons_succ])) | ((with_reducible apply sl_loadH HM); exact rfl; assumption; infer_instance; (try simp only [Act.put, List.setIfInBounds_toArray, List.set_cons_zero, List.set_cons_succ])) | ((with_reducible refine gate_dst (N := 3) rfl ?_); (with_reducible apply sl_box HM); (first | exact Ev.tmp rfl | exact Ev.const); exact rfl; clear HM; (try clear wq); intro g3 wq HM; (try simp only [Act.put, List.setIfInBounds_toArray, List.set_cons_zero, List.set_cons_succ])) | ((with_reducible refine gate_dst (N := 18) rfl ?_); (with_reducible apply sl_lit HM); (focus (go_simp; (try rfl); done)); clear HM; (try clear wq); intro g18 wq HM; (try simp only [Act.put, List.setIfInBounds_toArray, List.set_cons_zero, List.set_cons_succ])) | ((with_reducible refine gate_dst (N := 19) rfl ?_); (with_reducible apply sl_append_lit HM); (first | exact Ev.tmp rfl | exact Ev.const); infer_instance; (first | exact Ev.tmp rfl | exact Ev.const); infer_instance; infer_instance; exact rfl; infer_instance; (first | omega | (simp only [List.length_append, List.length_cons, List.length_nil] at *; omega)); clear HM; (try clear wq); intro v19 wq HM; (try simp only [Act.put, List.setIfInBounds_toArray, List.set_cons_zero, List.set_cons_succ]); haveI := HM.rowOne v19))
      refine wp_drawnB HM gQ [] [(0, 1), (1, 1), (2, 1), (3, 0), (4, 1), (5, 0), (6, 1), (7, 2)] (by kernel_rfl) (by kernel_rfl) (by kernel_rfl) (by kernel_rfl) (fun _ _ d _ _ h => by cases d <;> exact h) ?_; clear HM; (try clear wq); intro wq HM
      repeat (first | ((with_reducible apply t_move); exact rfl; exact rfl; (first | exact Ev.tmp rfl | exact Ev.const); (try simp only [Act.put, List.setIfInBounds_toArray, List.set_cons_zero, List.set_cons_succ])) | ((with_reducible apply t_assign); exact rfl; exact rfl; (first | exact Ev.tmp rfl | exact Ev.const); (try simp only [Act.put, List.setIfInBounds_toArray, List.set_cons_zero, List.set_cons_succ])) | ((with_reducible apply t_load HM); exact rfl; exact rfl; exact rfl; infer_instance; infer_instance; infer_instance; (try simp only [Act.put, List.setIfInBounds_toArray, List.set_cons_zero, List.set_cons_succ])) | ((with_reducible apply t_loadH HM); exact rfl; exact rfl; exact rfl; assumption; infer_instance; infer_instance; (try simp only [Act.put, List.setIfInBounds_toArray, List.set_cons_zero, List.set_cons_succ])) | ((with_reducible apply t_skip); exact rfl; exact rfl; (try simp only [Act.put, List.setIfInBounds_toArray, List.set_cons_zero, List.set_cons_succ])) | ((with_reducible apply t_skip0 HM); exact rfl; exact rfl; infer_instance; (try simp only [Act.put, List.setIfInBounds_toArray, List.set_cons_zero, List.set_cons_succ])) | ((with_reducible apply t_skip2 HM); exact rfl; exact rfl; infer_instance; (try simp only [Act.put, List.setIfInBounds_toArray, List.set_cons_zero, List.set_cons_succ])) | ((with_reducible apply t_pure); exact rfl; exact rfl; (focus (intro wv; go_simp; (try (go_ints; (try go_simp))); (first | done | rfl | (rw [if_pos (by omega)]; done)))); (try simp only [Act.put, List.setIfInBounds_toArray, List.set_cons_zero, List.set_cons_succ])) | ((with_reducible apply t_eff); exact rfl; exact rfl; intro K hK; (with_reducible apply ow_store HM); exact rfl; (first | exact Ev.tmp rfl | exact Ev.const); infer_instance; infer_instance; infer_instance; clear HM; (try clear wq); intro  wq HM; refine hK _ _ _ HM inferInstance ?_; clear hK K; (try simp only [Act.put, List.setIfInBounds_toArray, List.set_cons_zero, List.set_cons_succ])) | ((with_reducible apply t_last); exact rfl; exact rfl; intro K hK; (with_reducible apply ow_store HM); exact rfl; (first | exact Ev.tmp rfl | exact Ev.const); infer_instance; infer_instance; infer_instance; clear HM; (try clear wq); intro  wq HM; refine hK _ _ ?_; clear hK K; (try simp only [Act.put, List.setIfInBounds_toArray, List.set_cons_zero, List.set_cons_succ])))
      refine t_nil ?_
      go_wp2_with (fail)
      refine wp_drawnK HM gm [] [(0, 1), (1, 1), (2, 1), (3, 0), (4, 1), (5, 0), (6, 1), (7, 2)] (by kernel_rfl) (by kernel_rfl) (by kernel_rfl) (by kernel_rfl) (fun _ _ d _ _ h => by cases d <;> exact h) ?_; clear HM; (try clear wq); intro wq HM
      repeat (first | ((with_reducible refine t_at (n := 7) rfl ?_); (with_reducible apply t_eff); exact rfl; exact rfl; intro K hK; (with_reducible apply ow_kpt HM (r.fl) (1) (0)); (first | exact Ev.tmp rfl | exact Ev.const); (first | exact Ev.tmp rfl | exact Ev.const); (first | exact Ev.tmp rfl | exact Ev.const); infer_instance; clear HM; (try clear wq); intro wq HM; refine hK _ _ _ HM inferInstance ?_; clear hK K; (try simp only [Act.put, List.setIfInBounds_toArray, List.set_cons_zero, List.set_cons_succ])) | ((with_reducible apply t_move); exact rfl; exact rfl; (first | exact Ev.tmp rfl | exact Ev.const); (try simp only [Act.put, List.setIfInBounds_toArray, List.set_cons_zero, List.set_cons_succ])) | ((with_reducible apply t_assign); exact rfl; exact rfl; (first | exact Ev.tmp rfl | exact Ev.const); (try simp only [Act.put, List.setIfInBounds_toArray, List.set_cons_zero, List.set_cons_succ])) | ((with_reducible apply t_load HM); exact rfl; exact rfl; exact rfl; infer_instance; infer_instance; infer_instance; (try simp only [Act.put, List.setIfInBounds_toArray, List.set_cons_zero, List.set_cons_succ])) | ((with_reducible apply t_loadH HM); exact rfl; exact rfl; exact rfl; assumption; infer_instance; infer_instance; (try simp only [Act.put, List.setIfInBounds_toArray, List.set_cons_zero, List.set_cons_succ])) | ((with_reducible apply t_skip); exact rfl; exact rfl; (try simp only [Act.put, List.setIfInBounds_toArray, List.set_cons_zero, List.set_cons_succ])) | ((with_reducible apply t_skip0 HM); exact rfl; exact rfl; infer_instance; (try simp only [Act.put, List.setIfInBounds_toArray, List.set_cons_zero, List.set_cons_succ])) | ((with_reducible apply t_skip2 HM); exact rfl; exact rfl; infer_instance; (try simp only [Act.put, List.setIfInBounds_toArray, List.set_cons_zero, List.set_cons_succ])) | ((with_reducible apply t_pure); exact rfl; exact rfl; (focus (intro wv; go_simp; (try (go_ints; (try go_simp))); (first | done | rfl | (rw [if_pos (by omega)]; done)))); (try simp only [Act.put, List.setIfInBounds_toArray, List.set_cons_zero, List.set_cons_succ])))
      refine t_nil ?_
      go_wp2_with (fail)
      have HM1 : SL.Mod B w0 (cells gQ (cs.take (k * 8) ++ r.cells ++ cs.drop (k * 8 + r.cells.length)) 53 :: _) wq := HM.pickBlk gQ
      have hlen : k * 8 + r.cells.length ≤ cs.length := by rw [rec_len, HCL.out]; have := HC1.out; omega
      have HM2 := Mod.closeRow (n := S.q.length) (xs := recs (S.q.set k r)) HM1 HC1.out HC2.out (by rw [mid_len _ _ _ hlen, HCL.out]) (by
        rw [set_recs _ _ _ hk, ← HCT.out, mid_take _ _ _ _ (by rw [rec_len]; omega) (by rw [HCL.out]; have := HC1.out; omega), rec_len])
      have HM3 := rowLen HM2 (show S.q.length = (S.q.set k r).length from by rw [List.length_set])
      exact sl_ret1 rfl (vals_tmp rfl .nil) ⟨rfl, (Mod.closeSnd (gm := gm) (vQ := .slice (some ⟨gQ, 0, none⟩) S.q.length cQ) (vR := .slice AR S.rg.length cR) HM3.sub)⟩
  · have hok' : r.ok = false := by simpa using hok
    have E : Aside0 (S.add r = (S, false)) := ⟨by unfold SS.add; rw [if_neg hok]⟩
    unfold AddPost
    rw [E.out]
    clear hok
    go_enter Try.func33, Try.ntmps33
    go_wp2_with first | (go_at_call 66; refine (indexQ_calls S.q r _ _ g3 HQ.out B w0 _ _ (fun w h => (ownsRow_reads (h.rowOwn (.slice AQ S.q.length cQ))).1) HM).mono ?_; rintro e wq ⟨rfl, HM1⟩; clear HM; have HM := HM1; clear HM1) | (go_at_call 68; (with_reducible refine (Right_calls r HF.out HT.out _).mono ?_); rintro e wq ⟨rfl, hj⟩; have HM1 := HM.step hj.below; clear HM hj; have HM := HM1; clear HM1) | (first | go_step3 | ((with_reducible apply sl_want); exact rfl) | ((with_reducible apply sl_load HM); exact rfl; infer_instance; infer_instance; (try simp only [Act.put, List.setIfInBounds_toArray, List.set_cons_zero, List.set_cons_succ])) | ((with_reducible apply sl_store HM); exact rfl; (first | exact Ev.tmp rfl | exact Ev.const); infer_instance; infer_instance; infer_instance; clear HM; (try clear wq); intro wq HM; (try simp only [Act.put, List.setIfInBounds_toArray, List.set_cons_zero, List.set_cons_succ])) | ((with_reducible apply sl_loadR); exact rfl; assumption; (try simp only [Act.put, List.setIfInBounds_toArray, List.set_cons_zero, List.set_cons_succ])) | ((with_reducible apply sl_loadH HM); exact rfl; assumption; infer_instance; (try simp only [Act.put, List.setIfInBounds_toArray, List.set_cons_zero, List.set_cons_succ])) | ((with_reducible refine gate_dst (N := 3) rfl ?_); (with_reducible apply sl_box HM); (first | exact Ev.tmp rfl | exact Ev.const); exact rfl; clear HM; (try clear wq); intro g3 wq HM; (try simp only [Act.put, List.setIfInBounds_toArray, List.set_cons_zero, List.set_cons_succ])) | ((with_reducible refine gate_dst (N := 18) rfl ?_); (with_reducible apply sl_lit HM); (focus (go_simp; (try rfl); done)); clear HM; (try clear wq); intro g18 wq HM; (try simp only [Act.put, List.setIfInBounds_toArray, List.set_cons_zero, List.set_cons_succ])) | ((with_reducible refine gate_dst (N := 19) rfl ?_); (with_reducible apply sl_append_lit HM); (first | exact Ev.tmp rfl | exact Ev.const); infer_instance; (first | exact Ev.tmp rfl | exact Ev.const); infer_instance; infer_instance; exact rfl; infer_instance; (first | omega | (simp only [List.length_append, List.length_cons, List.length_nil] at *; omega)); clear HM; (try clear wq); intro v19 wq HM; (try simp only [Act.put, List.setIfInBounds_toArray, List.set_cons_zero, List.set_cons_succ]); haveI := HM.rowOne v19))
    exact sl_ret1 rfl (vals_tmp rfl .nil) ⟨rfl, (Mod.closeSnd (gm := gm) (vQ := .slice AQ S.q.length cQ) (vR := .slice AR S.rg.length cR) HM.sub)⟩

set_option maxHeartbeats 2000000 in
set_option maxRecDepth 100000 in
theorem Known_calls (g : Nat) (S : SS) (f : Fl) (B : Nat) (w0 w : World) (H : List As) (HM : SL.Mod B w0 (snd g S :: H) w) :
    Calls Try.prog 45 #[.pointer (some ⟨g, 0, none⟩), .agg f.cells.toArray] w fun e w' => e = .returned (.int .i64 (kmk S.kn f).1) ∧ SL.Mod B w0 (snd g S :: H) w' := by
  obtain ⟨gm, AQ, cQ, AR, cR, HM1⟩ := Mod.openSnd HM
  clear HM
  have HM := HM1
  clear HM1
  go_enter Try.func45, Try.ntmps45
  go_wp2_with (first | go_step3 | ((with_reducible apply sl_want); exact rfl) | ((with_reducible apply sl_load HM); exact rfl; infer_instance; infer_instance; (try simp only [Act.put, List.setIfInBounds_toArray, List.set_cons_zero, List.set_cons_succ])) | ((with_reducible apply sl_store HM); exact rfl; (first | exact Ev.tmp rfl | exact Ev.const); infer_instance; infer_instance; infer_instance; clear HM; (try clear wq); intro wq HM; (try simp only [Act.put, List.setIfInBounds_toArray, List.set_cons_zero, List.set_cons_succ])) | ((with_reducible apply sl_loadR); exact rfl; assumption; (try simp only [Act.put, List.setIfInBounds_toArray, List.set_cons_zero, List.set_cons_succ])) | ((with_reducible apply sl_loadH HM); exact rfl; assumption; infer_instance; (try simp only [Act.put, List.setIfInBounds_toArray, List.set_cons_zero, List.set_cons_succ])) | ((with_reducible refine gate_dst (N := 3) rfl ?_); (with_reducible apply sl_box HM); (first | exact Ev.tmp rfl | exact Ev.const); exact rfl; clear HM; (try clear wq); intro g3 wq HM; (try simp only [Act.put, List.setIfInBounds_toArray, List.set_cons_zero, List.set_cons_succ])))
  refine wp_drawnS HM [] [(0, 1), (1, 1), (2, 1), (3, 0), (4, 0), (5, 0), (6, 1), (7, 1)] (by kernel_rfl) (by kernel_rfl) (by kernel_rfl) (by kernel_rfl) (fun _ _ d _ _ h => by cases d <;> exact h) ?_; clear HM; (try clear wq); intro wq HM
  repeat (first | ((with_reducible apply t_kmk HM (f)); exact rfl; exact rfl; (first | exact Ev.tmp rfl | exact Ev.const); (first | exact Ev.tmp rfl | exact Ev.const); infer_instance; infer_instance; (try simp only [Act.put, List.setIfInBounds_toArray, List.set_cons_zero, List.set_cons_succ])) | ((with_reducible apply t_move); exact rfl; exact rfl; (first | exact Ev.tmp rfl | exact Ev.const); (try simp only [Act.put, List.setIfInBounds_toArray, List.set_cons_zero, List.set_cons_succ])) | ((with_reducible apply t_assign); exact rfl; exact rfl; (first | exact Ev.tmp rfl | exact Ev.const); (try simp only [Act.put, List.setIfInBounds_toArray, List.set_cons_zero, List.set_cons_succ])) | ((with_reducible apply t_load HM); exact rfl; exact rfl; exact rfl; infer_instance; infer_instance; infer_instance; (try simp only [Act.put, List.setIfInBounds_toArray, List.set_cons_zero, List.set_cons_succ])) | ((with_reducible apply t_loadH HM); exact rfl; exact rfl; exact rfl; assumption; infer_instance; infer_instance; (try simp only [Act.put, List.setIfInBounds_toArray, List.set_cons_zero, List.set_cons_succ])) | ((with_reducible apply t_skip); exact rfl; exact rfl; (try simp only [Act.put, List.setIfInBounds_toArray, List.set_cons_zero, List.set_cons_succ])) | ((with_reducible apply t_skip0 HM); exact rfl; exact rfl; infer_instance; (try simp only [Act.put, List.setIfInBounds_toArray, List.set_cons_zero, List.set_cons_succ])) | ((with_reducible apply t_skip2 HM); exact rfl; exact rfl; infer_instance; (try simp only [Act.put, List.setIfInBounds_toArray, List.set_cons_zero, List.set_cons_succ])) | ((with_reducible apply t_pure); exact rfl; exact rfl; (focus (intro wv; go_simp; (try (go_ints; (try go_simp))); (first | done | rfl | (rw [if_pos (by omega)]; done)))); (try simp only [Act.put, List.setIfInBounds_toArray, List.set_cons_zero, List.set_cons_succ])))
  refine t_nil ?_
  go_wp2_with (fail)
  exact sl_ret1 rfl (vals_tmp rfl .nil) ⟨rfl, (Mod.closeSnd (gm := gm) (vQ := .slice AQ S.q.length cQ) (vR := .slice AR S.rg.length cR) HM.sub)⟩
end Go.Proofs.Ytghfoooldcbdnaa
