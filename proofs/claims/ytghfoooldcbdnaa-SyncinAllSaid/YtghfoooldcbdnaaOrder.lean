/-
  THE WALK OF THE LAW SyncinOrder: whatever is told, it returns true, and nothing that was there turns.
-/
import Derived.Test.YtghfoooldcbdnaaScript
import Derived.Outline
set_option linter.unusedVariables false
set_option linter.unusedSimpArgs false
namespace Go.Proofs.Ytghfoooldcbdnaa
open Go.RowKit Go.Proofs.Ytghfoooldcbdnaa.SL Go.Proofs.YtghfoooldcbdnaaW.PrintWords

/-- A receiver behind so many batches. -/
structure RS.At (r : RS) (k : Nat) : Prop where
  fs : r.fs.length = 16
  d : 0 ≤ r.d ∧ r.d ≤ k
  l : 0 ≤ r.l ∧ r.l ≤ 4611686018427387904
theorem RS.At.ok {r : RS} {k : Nat} (h : r.At k) (hk : k ≤ 1000000) : r.Ok := ⟨h.fs, ⟨h.d.1, by have := h.d.2; omega⟩, h.l⟩
theorem RS.new_at : RS.new.At 0 := ⟨rfl, ⟨by decide, by decide⟩, by decide, by decide⟩
/-- A batch either changes nothing or is the next one. -/
theorem take_cases {r : RS} {k : Nat} (hr : r.At k) (s n : Int) (l : List Rec) (bits : Int) : (r.take s n l bits).r.At (k + 1) ∧ (((r.take s n l bits).ap = false ∧ (r.take s n l bits).r = r) ∨
    ((r.take s n l bits).ap = true ∧ l.length ≠ 0 ∧ (r.take s n l bits).is = true ∧ (r.take s n l bits).gap = false ∧ (r.take s n l bits).r.l = n ∧ (r.take s n l bits).r.s = s ∧ (s = r.s ∧ n = r.l + 1 ∨ s ≠ r.s ∧ n = 1))) := by
  have hr' : r.At (k + 1) := ⟨hr.fs, ⟨hr.d.1, by have := hr.d.2; omega⟩, hr.l⟩
  unfold RS.take
  split
  · rename_i hb
    have hn := batchOk_n hb
    have hl : l.length ≠ 0 := by
      simp only [batchOk, Bool.and_eq_true] at hb
      have := (headOk_spec hb.1).2.2.1
      omega
    have hd := hr.d
    have hll := hr.l
    split
    · split
      · exact ⟨hr', .inl ⟨rfl, rfl⟩⟩
      · split
        · exact ⟨hr', .inl ⟨rfl, rfl⟩⟩
        · rename_i h1 h2 h3
          exact ⟨⟨by simpa [RS.apply] using hr.fs, ⟨by show 0 ≤ r.d + 1; omega, by show r.d + 1 ≤ ((k + 1 : Nat) : Int); omega⟩, by show 0 ≤ n; omega, hn.2⟩, .inr ⟨rfl, hl, rfl, rfl, rfl, h1.symm, .inl ⟨h1, by omega⟩⟩⟩
    · split
      · rename_i h1 h2
        exact ⟨⟨by simp [RS.apply, RS.fresh], ⟨by show 0 ≤ r.d + 1; omega, by show r.d + 1 ≤ ((k + 1 : Nat) : Int); omega⟩, by show 0 ≤ n; omega, hn.2⟩, .inr ⟨rfl, hl, rfl, rfl, rfl, rfl, .inr ⟨h1, h2⟩⟩⟩
      · exact ⟨hr', .inl ⟨rfl, rfl⟩⟩
  · exact ⟨hr', .inl ⟨rfl, rfl⟩⟩

/-- What a law leaves: true, and what was there. -/
def TrueB (W : World) (e : Ending) (w' : World) : Prop := e = .returned (.bool true) ∧ Below W.heap.size W w'

set_option maxHeartbeats 4000000 in
set_option maxRecDepth 100000 in
theorem SyncinOrder_walk (W : World) (A : Option Addr) (l : List OpD) (c : Nat) (hr : Reads W A (l.flatMap OpD.cells)) (hq : ∀ x ∈ l, x.Ok W) (hm : l.length ≤ maxLen) :
    Calls Try.prog 4 #[.slice A l.length c] W (TrueB W) := by
  have HM := Mod.start W
  have HR := Aside0.mk hr
  have HQ := Aside0.mk hq
  unfold maxLen at hm
  clear hr hq
  by_cases hlen : l.length ≤ 300
  · go_enter Try.func4, Try.ntmps4
    go_wp2_with (first | (go_at_call 20; refine (New_calls _).mono ?_; rintro e wq ⟨g, rfl, hj⟩; have HM1 := HM.join hj; clear HM hj; have HM := HM1; clear HM1; simp only [List.cons_append, List.nil_append] at HM) | go_step3 | ((with_reducible apply sl_want); exact rfl) | ((with_reducible apply sl_load HM); exact rfl; infer_instance; infer_instance; (try simp only [Act.put, List.setIfInBounds_toArray, List.set_cons_zero, List.set_cons_succ])) | ((with_reducible apply sl_store HM); exact rfl; (first | exact Ev.tmp rfl | exact Ev.const); infer_instance; infer_instance; infer_instance; clear HM; (try clear wq); intro wq HM; (try simp only [Act.put, List.setIfInBounds_toArray, List.set_cons_zero, List.set_cons_succ])) | ((with_reducible apply sl_loadR); exact rfl; assumption; (try simp only [Act.put, List.setIfInBounds_toArray, List.set_cons_zero, List.set_cons_succ])) | ((with_reducible apply sl_loadH HM); exact rfl; assumption; infer_instance; (try simp only [Act.put, List.setIfInBounds_toArray, List.set_cons_zero, List.set_cons_succ])) | ((with_reducible refine gate_dst (N := 5) rfl ?_); (with_reducible apply sl_alloc HM); infer_instance; clear HM; (try clear wq); intro g5 wq HM; (try simp only [Act.put, List.setIfInBounds_toArray, List.set_cons_zero, List.set_cons_succ])) | ((with_reducible refine gate_dst (N := 8) rfl ?_); (with_reducible apply sl_alloc HM); infer_instance; clear HM; (try clear wq); intro g8 wq HM; (try simp only [Act.put, List.setIfInBounds_toArray, List.set_cons_zero, List.set_cons_succ])))
    go_loopw [28] (fun v28 wr => ∃ (k : Nat) (r : RS), v28 = .int .i64 k ∧ k ≤ l.length ∧ Aside0 (r.At k) ∧ Aside0 (Mod W.heap.size W [cells g r.cells 127] wr)) (fun v28 _ => l.length - (intOf v28).toNat)
    case atStart => exact ⟨0, _, rfl, by omega, ⟨RS.new_at⟩, ⟨HM⟩⟩
    case round =>
      obtain ⟨k, r, rfl, hk, HA, HM0⟩ := hrel
      clear HM
      have HM := HM0.out
      clear HM0
      by_cases hlt : k < l.length
      · obtain ⟨ad, rfl⟩ := HR.out.addr (by rw [flat_len op_len]; omega)
        obtain ⟨o, hok⟩ : ∃ o, l[k]? = some o := ⟨_, List.getElem?_eq_getElem hlt⟩
        have hld : Aside0 (∀ w', Mod W.heap.size W [] w' → Sem.run Try.prog (Instr.loadAt 35 (.pointer (some (ad.add (k * 4))))) w' = .ok (.agg o.cells.toArray) w') := ⟨fun w' h => load_seg (HR.out.below h.below) (k * 4) (flat_seg op_len l k o hok) (op_len o)⟩
        have HO := Aside0.mk (HQ.out o (List.mem_of_getElem? hok))
        clear hok
        obtain ⟨t, ht⟩ : ∃ t, r.take o.s o.n o.l (bitsUp (tells o.tk) o.l.length) = t := ⟨_, rfl⟩
        have hc := take_cases HA.out o.s o.n o.l (bitsUp (tells o.tk) o.l.length)
        rw [ht] at hc
        have HT := Aside0.mk ht
        clear ht
        obtain ⟨hat, hc⟩ := hc
        have HA2 := Aside0.mk hat
        clear hat
        rcases hc with ⟨h1, h2⟩ | ⟨h1, h2, h3, h4, h5, h6, h7⟩
        · obtain ⟨r', ts, tn, tg, tr, ti, ta⟩ := t
          dsimp only at h1 h2
          subst h1
          subst h2
          go_wp2_with (first | (go_at_call 25; refine (Last_calls g r' _ _ _ _ (HM.pickBlk g)).mono ?_; rintro e wq ⟨rfl, HM1⟩; clear HM; have HM := HM1; clear HM1; skip) | (go_at_call 24; refine (told_calls g r' (HA.out.ok (by omega)) o.s o.n o.l o.tk o.A o.T o.c o.ct HO.out.fits HO.out.len HO.out.lent _ _ _ _ (fun w h => HO.out.rd.below h) (fun w h => HO.out.rt.below h) _ HT.out (HM.pickBlk g)).mono ?_; rintro e wq ⟨va, rfl, HM1⟩; clear HM; have HM := HM1; clear HM1; haveI := HM.rowOne va; obtain ⟨A1, c1, rfl, hc1⟩ := row_slice (HM.rowOwn va); dsimp only [Out.ans] at HM ⊢; (try simp only [asks_no, asks_yes] at HM hc1 ⊢)) | go_step3 | ((with_reducible apply sl_want); exact rfl) | ((with_reducible apply sl_load HM); exact rfl; infer_instance; infer_instance; (try simp only [Act.put, List.setIfInBounds_toArray, List.set_cons_zero, List.set_cons_succ])) | ((with_reducible apply sl_store HM); exact rfl; (first | exact Ev.tmp rfl | exact Ev.const); infer_instance; infer_instance; infer_instance; clear HM; (try clear wq); intro wq HM; (try simp only [Act.put, List.setIfInBounds_toArray, List.set_cons_zero, List.set_cons_succ])) | ((with_reducible apply sl_loadR); exact rfl; assumption; (try simp only [Act.put, List.setIfInBounds_toArray, List.set_cons_zero, List.set_cons_succ])) | ((with_reducible apply sl_loadH HM); exact rfl; assumption; infer_instance; (try simp only [Act.put, List.setIfInBounds_toArray, List.set_cons_zero, List.set_cons_succ])) | ((with_reducible refine gate_dst (N := 5) rfl ?_); (with_reducible apply sl_alloc HM); infer_instance; clear HM; (try clear wq); intro g5 wq HM; (try simp only [Act.put, List.setIfInBounds_toArray, List.set_cons_zero, List.set_cons_succ])) | ((with_reducible refine gate_dst (N := 8) rfl ?_); (with_reducible apply sl_alloc HM); infer_instance; clear HM; (try clear wq); intro g8 wq HM; (try simp only [Act.put, List.setIfInBounds_toArray, List.set_cons_zero, List.set_cons_succ])))
          exact ⟨⟨k + 1, r', rfl, hlt, HA2, ⟨HM.sub⟩⟩, by simp only [intOf]; omega⟩
        · obtain ⟨r', ts, tn, tg, tr, ti, ta⟩ := t
          dsimp only at h1 h3 h4 h5 h6
          subst h1 h3 h4
          have e0 : ((o.l.length : Int) == 0) = false := by rw [beq_eq_false_iff_ne]; omega
          have e1 : (r'.l != o.n) = false := by rw [h5]; simp
          have e2 : (r'.s != o.s) = false := by rw [h6]; simp
          rcases h7 with ⟨h7, h8⟩ | ⟨h7, h8⟩
          · have e3 : (r'.s == r.s) = true := by rw [h6, h7]; simp
            have e4 : (r'.s != r.s) = false := by rw [h6, h7]; simp
            have e5 : (r'.l != r.l + 1) = false := by rw [h5, h8]; simp
            clear h2 h5 h6 h7 h8
            have hrl := HA.out.l
            go_wp2_with (first | (go_at_call 25; refine (Last_calls g r _ _ _ _ (HM.pickBlk g)).mono ?_; rintro e wq ⟨rfl, HM1⟩; clear HM; have HM := HM1; clear HM1; skip) | (go_at_call 25; refine (Last_calls g r' _ _ _ _ (HM.pickBlk g)).mono ?_; rintro e wq ⟨rfl, HM1⟩; clear HM; have HM := HM1; clear HM1; skip) | (go_at_call 24; refine (told_calls g r (HA.out.ok (by omega)) o.s o.n o.l o.tk o.A o.T o.c o.ct HO.out.fits HO.out.len HO.out.lent _ _ _ _ (fun w h => HO.out.rd.below h) (fun w h => HO.out.rt.below h) _ HT.out (HM.pickBlk g)).mono ?_; rintro e wq ⟨va, rfl, HM1⟩; clear HM; have HM := HM1; clear HM1; haveI := HM.rowOne va; obtain ⟨A1, c1, rfl, hc1⟩ := row_slice (HM.rowOwn va); dsimp only [Out.ans] at HM ⊢; (try simp only [asks_no, asks_yes] at HM hc1 ⊢)) | go_step3 | ((with_reducible apply sl_want); exact rfl) | ((with_reducible apply sl_load HM); exact rfl; infer_instance; infer_instance; (try simp only [Act.put, List.setIfInBounds_toArray, List.set_cons_zero, List.set_cons_succ])) | ((with_reducible apply sl_store HM); exact rfl; (first | exact Ev.tmp rfl | exact Ev.const); infer_instance; infer_instance; infer_instance; clear HM; (try clear wq); intro wq HM; (try simp only [Act.put, List.setIfInBounds_toArray, List.set_cons_zero, List.set_cons_succ])) | ((with_reducible apply sl_loadR); exact rfl; assumption; (try simp only [Act.put, List.setIfInBounds_toArray, List.set_cons_zero, List.set_cons_succ])) | ((with_reducible apply sl_loadH HM); exact rfl; assumption; infer_instance; (try simp only [Act.put, List.setIfInBounds_toArray, List.set_cons_zero, List.set_cons_succ])) | ((with_reducible refine gate_dst (N := 5) rfl ?_); (with_reducible apply sl_alloc HM); infer_instance; clear HM; (try clear wq); intro g5 wq HM; (try simp only [Act.put, List.setIfInBounds_toArray, List.set_cons_zero, List.set_cons_succ])) | ((with_reducible refine gate_dst (N := 8) rfl ?_); (with_reducible apply sl_alloc HM); infer_instance; clear HM; (try clear wq); intro g8 wq HM; (try simp only [Act.put, List.setIfInBounds_toArray, List.set_cons_zero, List.set_cons_succ])))
            exact ⟨⟨k + 1, r', rfl, hlt, HA2, ⟨HM.sub⟩⟩, by simp only [intOf]; omega⟩
          · have e3 : (r'.s == r.s) = false := by rw [h6]; simpa using h7
            have e4 : (r'.s != r.s) = true := by rw [h6]; simpa using h7
            have e5 : (r'.l != 1) = false := by rw [h5, h8]; simp
            clear h2 h5 h6 h7 h8
            go_wp2_with (first | (go_at_call 25; refine (Last_calls g r _ _ _ _ (HM.pickBlk g)).mono ?_; rintro e wq ⟨rfl, HM1⟩; clear HM; have HM := HM1; clear HM1; skip) | (go_at_call 25; refine (Last_calls g r' _ _ _ _ (HM.pickBlk g)).mono ?_; rintro e wq ⟨rfl, HM1⟩; clear HM; have HM := HM1; clear HM1; skip) | (go_at_call 24; refine (told_calls g r (HA.out.ok (by omega)) o.s o.n o.l o.tk o.A o.T o.c o.ct HO.out.fits HO.out.len HO.out.lent _ _ _ _ (fun w h => HO.out.rd.below h) (fun w h => HO.out.rt.below h) _ HT.out (HM.pickBlk g)).mono ?_; rintro e wq ⟨va, rfl, HM1⟩; clear HM; have HM := HM1; clear HM1; haveI := HM.rowOne va; obtain ⟨A1, c1, rfl, hc1⟩ := row_slice (HM.rowOwn va); dsimp only [Out.ans] at HM ⊢; (try simp only [asks_no, asks_yes] at HM hc1 ⊢)) | go_step3 | ((with_reducible apply sl_want); exact rfl) | ((with_reducible apply sl_load HM); exact rfl; infer_instance; infer_instance; (try simp only [Act.put, List.setIfInBounds_toArray, List.set_cons_zero, List.set_cons_succ])) | ((with_reducible apply sl_store HM); exact rfl; (first | exact Ev.tmp rfl | exact Ev.const); infer_instance; infer_instance; infer_instance; clear HM; (try clear wq); intro wq HM; (try simp only [Act.put, List.setIfInBounds_toArray, List.set_cons_zero, List.set_cons_succ])) | ((with_reducible apply sl_loadR); exact rfl; assumption; (try simp only [Act.put, List.setIfInBounds_toArray, List.set_cons_zero, List.set_cons_succ])) | ((with_reducible apply sl_loadH HM); exact rfl; assumption; infer_instance; (try simp only [Act.put, List.setIfInBounds_toArray, List.set_cons_zero, List.set_cons_succ])) | ((with_reducible refine gate_dst (N := 5) rfl ?_); (with_reducible apply sl_alloc HM); infer_instance; clear HM; (try clear wq); intro g5 wq HM; (try simp only [Act.put, List.setIfInBounds_toArray, List.set_cons_zero, List.set_cons_succ])) | ((with_reducible refine gate_dst (N := 8) rfl ?_); (with_reducible apply sl_alloc HM); infer_instance; clear HM; (try clear wq); intro g8 wq HM; (try simp only [Act.put, List.setIfInBounds_toArray, List.set_cons_zero, List.set_cons_succ])))
            exact ⟨⟨k + 1, r', rfl, hlt, HA2, ⟨HM.sub⟩⟩, by simp only [intOf]; omega⟩
      · go_wp2_with (first | (go_at_call 21; refine (alive_calls _).mono ?_; rintro e wq ⟨rfl, hj⟩; have HM1 := HM.step hj.below; clear HM hj; have HM := HM1; clear HM1) | go_step3 | ((with_reducible apply sl_want); exact rfl) | ((with_reducible apply sl_load HM); exact rfl; infer_instance; infer_instance; (try simp only [Act.put, List.setIfInBounds_toArray, List.set_cons_zero, List.set_cons_succ])) | ((with_reducible apply sl_store HM); exact rfl; (first | exact Ev.tmp rfl | exact Ev.const); infer_instance; infer_instance; infer_instance; clear HM; (try clear wq); intro wq HM; (try simp only [Act.put, List.setIfInBounds_toArray, List.set_cons_zero, List.set_cons_succ])) | ((with_reducible apply sl_loadR); exact rfl; assumption; (try simp only [Act.put, List.setIfInBounds_toArray, List.set_cons_zero, List.set_cons_succ])) | ((with_reducible apply sl_loadH HM); exact rfl; assumption; infer_instance; (try simp only [Act.put, List.setIfInBounds_toArray, List.set_cons_zero, List.set_cons_succ])) | ((with_reducible refine gate_dst (N := 5) rfl ?_); (with_reducible apply sl_alloc HM); infer_instance; clear HM; (try clear wq); intro g5 wq HM; (try simp only [Act.put, List.setIfInBounds_toArray, List.set_cons_zero, List.set_cons_succ])) | ((with_reducible refine gate_dst (N := 8) rfl ?_); (with_reducible apply sl_alloc HM); infer_instance; clear HM; (try clear wq); intro g8 wq HM; (try simp only [Act.put, List.setIfInBounds_toArray, List.set_cons_zero, List.set_cons_succ])))
        exact sl_ret1 rfl (vals_tmp rfl .nil) (show TrueB W _ _ from ⟨rfl, HM.below⟩)
  · go_enter Try.func4, Try.ntmps4
    go_wp2_with (first | (go_at_call 20; refine (New_calls _).mono ?_; rintro e wq ⟨g, rfl, hj⟩; have HM1 := HM.join hj; clear HM hj; have HM := HM1; clear HM1; simp only [List.cons_append, List.nil_append] at HM) | (go_at_call 21; refine (alive_calls _).mono ?_; rintro e wq ⟨rfl, hj⟩; have HM1 := HM.step hj.below; clear HM hj; have HM := HM1; clear HM1) | go_step3 | ((with_reducible apply sl_want); exact rfl) | ((with_reducible apply sl_load HM); exact rfl; infer_instance; infer_instance; (try simp only [Act.put, List.setIfInBounds_toArray, List.set_cons_zero, List.set_cons_succ])) | ((with_reducible apply sl_store HM); exact rfl; (first | exact Ev.tmp rfl | exact Ev.const); infer_instance; infer_instance; infer_instance; clear HM; (try clear wq); intro wq HM; (try simp only [Act.put, List.setIfInBounds_toArray, List.set_cons_zero, List.set_cons_succ])) | ((with_reducible apply sl_loadR); exact rfl; assumption; (try simp only [Act.put, List.setIfInBounds_toArray, List.set_cons_zero, List.set_cons_succ])) | ((with_reducible apply sl_loadH HM); exact rfl; assumption; infer_instance; (try simp only [Act.put, List.setIfInBounds_toArray, List.set_cons_zero, List.set_cons_succ])) | ((with_reducible refine gate_dst (N := 5) rfl ?_); (with_reducible apply sl_alloc HM); infer_instance; clear HM; (try clear wq); intro g5 wq HM; (try simp only [Act.put, List.setIfInBounds_toArray, List.set_cons_zero, List.set_cons_succ])) | ((with_reducible refine gate_dst (N := 8) rfl ?_); (with_reducible apply sl_alloc HM); infer_instance; clear HM; (try clear wq); intro g8 wq HM; (try simp only [Act.put, List.setIfInBounds_toArray, List.set_cons_zero, List.set_cons_succ])))
    exact sl_ret1 rfl (vals_tmp rfl .nil) (show TrueB W _ _ from ⟨rfl, HM.below⟩)
end Go.Proofs.Ytghfoooldcbdnaa
