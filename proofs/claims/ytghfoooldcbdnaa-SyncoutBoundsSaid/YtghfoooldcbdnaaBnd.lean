/-
  THE WALK OF THE LAW SyncoutBounds: whatever a sender is told, it returns true, and nothing that was there turns.
-/
import Derived.Test.YtghfoooldcbdnaaBnd2
set_option linter.unusedVariables false
set_option linter.unusedSimpArgs false
namespace Go.Proofs.Ytghfoooldcbdnaa
open Go.RowKit Go.Proofs.Ytghfoooldcbdnaa.SL Go.Proofs.YtghfoooldcbdnaaW.PrintWords

set_option maxHeartbeats 8000000 in
set_option maxRecDepth 100000 in
theorem SyncoutBounds_walk (W : World) (s : Int) (A : Option Addr) (l : List OpE) (c : Nat) (hr : Reads W A (l.flatMap OpE.cells)) (hq : ∀ x ∈ l, x.Ok) (hm : l.length ≤ maxLen) :
    Calls Try.prog 7 #[.int .i64 s, .slice A l.length c] W fun e w' => e = .returned (.bool true) ∧ Below W.heap.size W w' := by
  cases hy : mayS s 10 with
  | false =>
    refine (Bounds_no W s A l.length c hy).mono ?_
    rintro e w' ⟨rfl, h⟩
    exact ⟨rfl, h.below⟩
  | true =>
  by_cases hlen : 400 < l.length
  · refine (Bounds_many W s A l.length c hy hlen).mono ?_
    rintro e w' ⟨rfl, h⟩
    exact ⟨rfl, h.below⟩
  have HM := Mod.start W
  have HR := Aside0.mk hr
  have HQ := Aside0.mk hq
  have HY := Aside0.mk hy
  have E : Aside0 (decide ((l.length : Int) ≤ 400) = true) := ⟨decide_eq_true (by omega)⟩
  have hln : l.length ≤ 400 := by omega
  have hss : (s != s) = false := by simp
  clear hr hq hy hm hlen
  go_enter Try.func7, Try.ntmps7
  go_wp2_with first | (go_at_call 30; refine (sndNew_ok s 10 HY.out _).mono ?_; rintro e wq ⟨g, rfl, hj⟩; have HM1 := HM.join hj; clear HM hj; have HM := HM1; clear HM1; simp only [List.cons_append, List.nil_append] at HM) | (go_at_call 31; refine (few_calls A l.length c _).mono ?_; rintro e w1 ⟨rfl, rfl⟩; rw [E.out]) | (first | go_step3 | ((with_reducible apply sl_want); exact rfl) | ((with_reducible apply sl_load HM); exact rfl; infer_instance; infer_instance; (try simp only [Act.put, List.setIfInBounds_toArray, List.set_cons_zero, List.set_cons_succ])) | ((with_reducible apply sl_store HM); exact rfl; (first | exact Ev.tmp rfl | exact Ev.const); infer_instance; infer_instance; infer_instance; clear HM; (try clear wq); intro wq HM; (try simp only [Act.put, List.setIfInBounds_toArray, List.set_cons_zero, List.set_cons_succ])) | ((with_reducible apply sl_loadR); exact rfl; assumption; (try simp only [Act.put, List.setIfInBounds_toArray, List.set_cons_zero, List.set_cons_succ])) | ((with_reducible apply sl_loadH HM); exact rfl; assumption; infer_instance; (try simp only [Act.put, List.setIfInBounds_toArray, List.set_cons_zero, List.set_cons_succ])) | ((with_reducible refine gate_dst (N := 9) rfl ?_); (with_reducible apply sl_alloc HM); infer_instance; clear HM; (try clear wq); intro g9 wq HM; (try simp only [Act.put, List.setIfInBounds_toArray, List.set_cons_zero, List.set_cons_succ])) | ((with_reducible refine gate_dst (N := 11) rfl ?_); (with_reducible apply sl_alloc HM); infer_instance; clear HM; (try clear wq); intro g11 wq HM; (try simp only [Act.put, List.setIfInBounds_toArray, List.set_cons_zero, List.set_cons_succ])))
  go_loopw [7, 35] (fun v7 v35 wr => ∃ (k : Nat) (S : SS) (last : Int), v35 = .int .i64 k ∧ k ≤ l.length ∧ v7 = .int .i64 last ∧ Aside0 (last = S.p.nx - 1) ∧ Aside0 (SB S k s) ∧ Aside0 (SL.Mod W.heap.size W [snd g S] wr)) (fun _ v35 _ => l.length - (intOf v35).toNat)
  case atStart => exact ⟨0, _, 0, rfl, by omega, rfl, ⟨rfl⟩, ⟨SB.new s 10 HY.out⟩, ⟨HM⟩⟩
  case round =>
    obtain ⟨k, S, last, rfl, hk, rfl, HL, HB, HM0⟩ := hrel
    clear HM
    have HM := HM0.out
    clear HM0
    by_cases hlt : k < l.length
    · obtain ⟨ad, rfl⟩ := HR.out.addr (by rw [flat_len ope_len]; omega)
      obtain ⟨o, hok⟩ : ∃ o, l[k]? = some o := ⟨_, List.getElem?_eq_getElem hlt⟩
      have hld : Aside0 (∀ w', SL.Mod W.heap.size W [] w' → Sem.run Try.prog (Instr.loadAt 70 (.pointer (some (ad.add (k * 14))))) w' = .ok (.agg o.cs.toArray) w') := ⟨fun w' h => ope_load (HR.out.below h.below) hok⟩
      have HO := Aside0.mk (HQ.out o (List.mem_of_getElem? hok))
      clear hok
      obtain ⟨kind, now, r, as0, an, ag, af⟩ := o
      simp only [OpE.cs] at hld
      by_cases h0 : kind = 0
      · subst h0
        go_wp2_with first | (go_at_call 33; have HMq : SL.Mod W.heap.size W (snd g S :: _) _ := HM.pick (snd g S); refine (AddK (S := S) (k := k) r HB.out.ok (Nat.le_trans HO.out.1.1 (by decide)) (Nat.le_trans HO.out.1.2 (by decide)) HMq).mono ?_; clear HMq; rintro e wq ⟨S1, rfl, h1, HM1⟩; clear HM; have HM := HM1; clear HM1; have HN : Aside0 (S1.p.nx = S.p.nx) := ⟨by rw [h1, (add_rg S.p r).2.2]⟩; have HB1 := Aside0.mk (HB.out.add h1); have hq1 := HB1.out.lens.1; have hr1 := HB1.out.lens.2; clear h1) | (go_at_call 37; have HMq : SL.Mod W.heap.size W (snd g S1 :: _) _ := HM.pick (snd g S1); refine (WaitingK (S := S1) HMq).mono ?_; clear HMq; rintro e wq ⟨rfl, HM1⟩; clear HM; have HM := HM1; clear HM1) | (first | go_step3 | ((with_reducible apply sl_want); exact rfl) | ((with_reducible apply sl_load HM); exact rfl; infer_instance; infer_instance; (try simp only [Act.put, List.setIfInBounds_toArray, List.set_cons_zero, List.set_cons_succ])) | ((with_reducible apply sl_store HM); exact rfl; (first | exact Ev.tmp rfl | exact Ev.const); infer_instance; infer_instance; infer_instance; clear HM; (try clear wq); intro wq HM; (try simp only [Act.put, List.setIfInBounds_toArray, List.set_cons_zero, List.set_cons_succ])) | ((with_reducible apply sl_loadR); exact rfl; assumption; (try simp only [Act.put, List.setIfInBounds_toArray, List.set_cons_zero, List.set_cons_succ])) | ((with_reducible apply sl_loadH HM); exact rfl; assumption; infer_instance; (try simp only [Act.put, List.setIfInBounds_toArray, List.set_cons_zero, List.set_cons_succ])) | ((with_reducible refine gate_dst (N := 9) rfl ?_); (with_reducible apply sl_alloc HM); infer_instance; clear HM; (try clear wq); intro g9 wq HM; (try simp only [Act.put, List.setIfInBounds_toArray, List.set_cons_zero, List.set_cons_succ])) | ((with_reducible refine gate_dst (N := 11) rfl ?_); (with_reducible apply sl_alloc HM); infer_instance; clear HM; (try clear wq); intro g11 wq HM; (try simp only [Act.put, List.setIfInBounds_toArray, List.set_cons_zero, List.set_cons_succ])))
        exact ⟨⟨k + 1, S1, last, rfl, hlt, rfl, ⟨by rw [HL.out, HN.out]⟩, HB1, ⟨HM.sub⟩⟩, by simp only [intOf]; omega⟩
      · have e0 : (kind == 0) = false := by simpa using h0
        clear h0
        by_cases h1 : kind = 1
        · subst h1
          go_wp2_with first | (go_at_call 34; have HMq : SL.Mod W.heap.size W (snd g S :: _) _ := HM.pick (snd g S); refine (SendK (S := S) (k := k) now HB.out.ok (by omega) HMq).mono ?_; clear HMq; rintro e wq ⟨v52, bl, S1, rfl, h1, h2, HM1⟩; clear HM; have HM := HM1; clear HM1; obtain ⟨A52, c52, rfl, _⟩ := row_slice (HM.rowOwn v52); rw [HB.out.ss] at HM; have HRS : Aside0 (Rises last (bl.map Bt.v) (S1.p.nx - 1)) := ⟨by rw [HL.out, h2, h1]; exact HB.out.ok.rises now⟩; have HBO : Aside0 (∀ b ∈ bl.map Bt.v, batchOk s b.1 b.2 = true) := ⟨by rw [h2]; exact HB.out.out (by omega) now⟩; have HB1 := Aside0.mk ((HB.out.sends (by omega) h1).mono (Nat.le_succ k)); have hq1 := HB1.out.lens.1; have hr1 := HB1.out.lens.2; have hbl : bl.length ≤ 272 := (by have h3 := congrArg List.length h2; rw [List.length_map] at h3; rw [h3]; exact HB.out.len now); clear h1 h2) | (first | go_step3 | ((with_reducible apply sl_want); exact rfl) | ((with_reducible apply sl_load HM); exact rfl; infer_instance; infer_instance; (try simp only [Act.put, List.setIfInBounds_toArray, List.set_cons_zero, List.set_cons_succ])) | ((with_reducible apply sl_store HM); exact rfl; (first | exact Ev.tmp rfl | exact Ev.const); infer_instance; infer_instance; infer_instance; clear HM; (try clear wq); intro wq HM; (try simp only [Act.put, List.setIfInBounds_toArray, List.set_cons_zero, List.set_cons_succ])) | ((with_reducible apply sl_loadR); exact rfl; assumption; (try simp only [Act.put, List.setIfInBounds_toArray, List.set_cons_zero, List.set_cons_succ])) | ((with_reducible apply sl_loadH HM); exact rfl; assumption; infer_instance; (try simp only [Act.put, List.setIfInBounds_toArray, List.set_cons_zero, List.set_cons_succ])) | ((with_reducible refine gate_dst (N := 9) rfl ?_); (with_reducible apply sl_alloc HM); infer_instance; clear HM; (try clear wq); intro g9 wq HM; (try simp only [Act.put, List.setIfInBounds_toArray, List.set_cons_zero, List.set_cons_succ])) | ((with_reducible refine gate_dst (N := 11) rfl ?_); (with_reducible apply sl_alloc HM); infer_instance; clear HM; (try clear wq); intro g11 wq HM; (try simp only [Act.put, List.setIfInBounds_toArray, List.set_cons_zero, List.set_cons_succ])))
          go_loopw [7, 54] (fun v7 v54 wr => ∃ (j : Nat) (m : Int), v54 = .int .i64 j ∧ j ≤ bl.length ∧ v7 = .int .i64 m ∧ Aside0 (m = mxs last ((bl.map Bt.v).take j)) ∧ Aside0 (SL.Mod W.heap.size W [row (.slice A52 bl.length c52) 61 3 bl.length (bts s bl), SL.star (bl.map Bt.own), snd g S1] wr)) (fun _ v54 _ => bl.length - (intOf v54).toNat)
          case atStart => exact ⟨0, last, rfl, by omega, rfl, ⟨rfl⟩, ⟨HM.sub⟩⟩
          case round =>
            obtain ⟨j, m, rfl, hj, rfl, HX, HM0⟩ := hrel
            clear HM
            have HM := HM0.out
            clear HM0
            by_cases hjl : j < bl.length
            · obtain ⟨b, hb⟩ : ∃ b, bl[j]? = some b := ⟨_, List.getElem?_eq_getElem hjl⟩
              obtain ⟨ad2, rfl⟩ := bt_addr (A := A52) (c := c52) (n := bl.length) (s := s) HM hb
              have hl2 : Aside0 (∀ w', SL.Mod W.heap.size W [row (.slice (some ad2) bl.length c52) 61 3 bl.length (bts s bl)] w' → Sem.run Try.prog (Instr.loadAt 61 (.pointer (some (ad2.add (j * 3))))) w' = .ok (.agg (b.cells s).toArray) w') := ⟨fun w' h => bt_load (ad := ad2) (c := c52) (n := bl.length) (s := s) h hb⟩
              have hbv := bt_v rfl hb
              have HE := Aside0.mk (HBO.out _ (List.mem_of_getElem? hbv))
              have HRB : Aside0 (∀ w', SL.Mod W.heap.size W [SL.star (bl.map Bt.own)] w' → Reads w' b.A (recs b.l)) := ⟨fun w' h => bt_reads h (List.mem_of_getElem? hb)⟩
              have hle := HRS.out.one j _ hbv
              rw [← HX.out] at hle
              have HX2 := Aside0.mk (mxs_succ (a := last) hbv)
              rw [← HX.out] at HX2
              have hm0 : 0 ≤ m ∧ m ≤ 1000000 := by
                have h1 := mxs_ge last ((bl.map Bt.v).take j)
                have h2 := mxs_take last (bl.map Bt.v) j
                have h3 := HRS.out.last
                have h4 := HB1.out.ok.nx
                have h5 := HB.out.ok.nx
                have h6 := HL.out
                rw [← HX.out] at h1 h2
                omega
              obtain ⟨hm1, hm2⟩ := hm0
              obtain ⟨bn, bll, bA, bc⟩ := b
              dsimp only at hl2 hle HX2 HE HRB
              have e5 : decide (m + 1 < bn) = false := decide_eq_false (by omega)
              clear hb hbv hle
              go_wp2_with first | (go_at_call 35; (with_reducible refine (enc15 s bn bll HE.out bA bc _ (HRB.out _ HM.sub)).mono ?_); rintro e wq ⟨v60, rfl, hj⟩; have HM1 := HM.step hj; clear HM hj; have HM := HM1; clear HM1) | (first | go_step3 | ((with_reducible apply sl_want); exact rfl) | ((with_reducible apply sl_load HM); exact rfl; infer_instance; infer_instance; (try simp only [Act.put, List.setIfInBounds_toArray, List.set_cons_zero, List.set_cons_succ])) | ((with_reducible apply sl_store HM); exact rfl; (first | exact Ev.tmp rfl | exact Ev.const); infer_instance; infer_instance; infer_instance; clear HM; (try clear wq); intro wq HM; (try simp only [Act.put, List.setIfInBounds_toArray, List.set_cons_zero, List.set_cons_succ])) | ((with_reducible apply sl_loadR); exact rfl; assumption; (try simp only [Act.put, List.setIfInBounds_toArray, List.set_cons_zero, List.set_cons_succ])) | ((with_reducible apply sl_loadH HM); exact rfl; assumption; infer_instance; (try simp only [Act.put, List.setIfInBounds_toArray, List.set_cons_zero, List.set_cons_succ])) | ((with_reducible refine gate_dst (N := 9) rfl ?_); (with_reducible apply sl_alloc HM); infer_instance; clear HM; (try clear wq); intro g9 wq HM; (try simp only [Act.put, List.setIfInBounds_toArray, List.set_cons_zero, List.set_cons_succ])) | ((with_reducible refine gate_dst (N := 11) rfl ?_); (with_reducible apply sl_alloc HM); infer_instance; clear HM; (try clear wq); intro g11 wq HM; (try simp only [Act.put, List.setIfInBounds_toArray, List.set_cons_zero, List.set_cons_succ])))
              refine ⟨⟨j + 1, _, rfl, hjl, rfl, ⟨?_⟩, ⟨HM.sub⟩⟩, by simp only [intOf]; omega⟩
              rw [HX2.out]
              split <;> omega
            · have hje : j = bl.length := by omega
              have HLL : Aside0 (m = S1.p.nx - 1) := ⟨by rw [HX.out, hje, List.take_of_length_le (by simp), HRS.out.last]⟩
              clear hje
              go_wp2_with first | (go_at_call 37; have HMq : SL.Mod W.heap.size W (snd g S1 :: _) _ := HM.pick (snd g S1); refine (WaitingK (S := S1) HMq).mono ?_; clear HMq; rintro e wq ⟨rfl, HM1⟩; clear HM; have HM := HM1; clear HM1) | (first | go_step3 | ((with_reducible apply sl_want); exact rfl) | ((with_reducible apply sl_load HM); exact rfl; infer_instance; infer_instance; (try simp only [Act.put, List.setIfInBounds_toArray, List.set_cons_zero, List.set_cons_succ])) | ((with_reducible apply sl_store HM); exact rfl; (first | exact Ev.tmp rfl | exact Ev.const); infer_instance; infer_instance; infer_instance; clear HM; (try clear wq); intro wq HM; (try simp only [Act.put, List.setIfInBounds_toArray, List.set_cons_zero, List.set_cons_succ])) | ((with_reducible apply sl_loadR); exact rfl; assumption; (try simp only [Act.put, List.setIfInBounds_toArray, List.set_cons_zero, List.set_cons_succ])) | ((with_reducible apply sl_loadH HM); exact rfl; assumption; infer_instance; (try simp only [Act.put, List.setIfInBounds_toArray, List.set_cons_zero, List.set_cons_succ])) | ((with_reducible refine gate_dst (N := 9) rfl ?_); (with_reducible apply sl_alloc HM); infer_instance; clear HM; (try clear wq); intro g9 wq HM; (try simp only [Act.put, List.setIfInBounds_toArray, List.set_cons_zero, List.set_cons_succ])) | ((with_reducible refine gate_dst (N := 11) rfl ?_); (with_reducible apply sl_alloc HM); infer_instance; clear HM; (try clear wq); intro g11 wq HM; (try simp only [Act.put, List.setIfInBounds_toArray, List.set_cons_zero, List.set_cons_succ])))
              exact ⟨⟨k + 1, S1, m, rfl, hlt, rfl, HLL, HB1, ⟨HM.sub⟩⟩, by simp only [intOf]; omega⟩
        · have e1 : (kind == 1) = false := by simpa using h1
          clear h1
          by_cases h2 : kind = 2
          · subst h2
            go_wp2_with first | (go_at_call 36; have HMq : SL.Mod W.heap.size W (snd g S :: _) _ := HM.pick (snd g S); refine (TakeK (S := S) (k := k) as0 an af now ag HB.out.ok HO.out.2 HMq).mono ?_; clear HMq; rintro e wq ⟨S1, rfl, h1, HM1⟩; clear HM; have HM := HM1; clear HM1; have HN : Aside0 (S1.p.nx = S.p.nx) := ⟨by rw [h1, (take_nx S.p as0 an ag af now).1]⟩; have HB1 := Aside0.mk ((HB.out.take h1).mono (Nat.le_succ k)); have hq1 := HB1.out.lens.1; have hr1 := HB1.out.lens.2; clear h1) | (go_at_call 37; have HMq : SL.Mod W.heap.size W (snd g S1 :: _) _ := HM.pick (snd g S1); refine (WaitingK (S := S1) HMq).mono ?_; clear HMq; rintro e wq ⟨rfl, HM1⟩; clear HM; have HM := HM1; clear HM1) | (first | go_step3 | ((with_reducible apply sl_want); exact rfl) | ((with_reducible apply sl_load HM); exact rfl; infer_instance; infer_instance; (try simp only [Act.put, List.setIfInBounds_toArray, List.set_cons_zero, List.set_cons_succ])) | ((with_reducible apply sl_store HM); exact rfl; (first | exact Ev.tmp rfl | exact Ev.const); infer_instance; infer_instance; infer_instance; clear HM; (try clear wq); intro wq HM; (try simp only [Act.put, List.setIfInBounds_toArray, List.set_cons_zero, List.set_cons_succ])) | ((with_reducible apply sl_loadR); exact rfl; assumption; (try simp only [Act.put, List.setIfInBounds_toArray, List.set_cons_zero, List.set_cons_succ])) | ((with_reducible apply sl_loadH HM); exact rfl; assumption; infer_instance; (try simp only [Act.put, List.setIfInBounds_toArray, List.set_cons_zero, List.set_cons_succ])) | ((with_reducible refine gate_dst (N := 9) rfl ?_); (with_reducible apply sl_alloc HM); infer_instance; clear HM; (try clear wq); intro g9 wq HM; (try simp only [Act.put, List.setIfInBounds_toArray, List.set_cons_zero, List.set_cons_succ])) | ((with_reducible refine gate_dst (N := 11) rfl ?_); (with_reducible apply sl_alloc HM); infer_instance; clear HM; (try clear wq); intro g11 wq HM; (try simp only [Act.put, List.setIfInBounds_toArray, List.set_cons_zero, List.set_cons_succ])))
            exact ⟨⟨k + 1, S1, last, rfl, hlt, rfl, ⟨by rw [HL.out, HN.out]⟩, HB1, ⟨HM.sub⟩⟩, by simp only [intOf]; omega⟩
          · have e2 : (kind == 2) = false := by simpa using h2
            clear h2
            have hq1 := HB.out.lens.1
            have hr1 := HB.out.lens.2
            go_wp2_with first | (go_at_call 37; have HMq : SL.Mod W.heap.size W (snd g S :: _) _ := HM.pick (snd g S); refine (WaitingK (S := S) HMq).mono ?_; clear HMq; rintro e wq ⟨rfl, HM1⟩; clear HM; have HM := HM1; clear HM1) | (first | go_step3 | ((with_reducible apply sl_want); exact rfl) | ((with_reducible apply sl_load HM); exact rfl; infer_instance; infer_instance; (try simp only [Act.put, List.setIfInBounds_toArray, List.set_cons_zero, List.set_cons_succ])) | ((with_reducible apply sl_store HM); exact rfl; (first | exact Ev.tmp rfl | exact Ev.const); infer_instance; infer_instance; infer_instance; clear HM; (try clear wq); intro wq HM; (try simp only [Act.put, List.setIfInBounds_toArray, List.set_cons_zero, List.set_cons_succ])) | ((with_reducible apply sl_loadR); exact rfl; assumption; (try simp only [Act.put, List.setIfInBounds_toArray, List.set_cons_zero, List.set_cons_succ])) | ((with_reducible apply sl_loadH HM); exact rfl; assumption; infer_instance; (try simp only [Act.put, List.setIfInBounds_toArray, List.set_cons_zero, List.set_cons_succ])) | ((with_reducible refine gate_dst (N := 9) rfl ?_); (with_reducible apply sl_alloc HM); infer_instance; clear HM; (try clear wq); intro g9 wq HM; (try simp only [Act.put, List.setIfInBounds_toArray, List.set_cons_zero, List.set_cons_succ])) | ((with_reducible refine gate_dst (N := 11) rfl ?_); (with_reducible apply sl_alloc HM); infer_instance; clear HM; (try clear wq); intro g11 wq HM; (try simp only [Act.put, List.setIfInBounds_toArray, List.set_cons_zero, List.set_cons_succ])))
            exact ⟨⟨k + 1, S, last, rfl, hlt, rfl, HL, ⟨HB.out.mono (Nat.le_succ k)⟩, ⟨HM.sub⟩⟩, by simp only [intOf]; omega⟩
    · go_wp2_with first | (go_at_call 32; refine (alive15_calls _).mono ?_; rintro e wq ⟨rfl, hj⟩; have HM1 := HM.step hj.below; clear HM hj; have HM := HM1; clear HM1) | (first | go_step3 | ((with_reducible apply sl_want); exact rfl) | ((with_reducible apply sl_load HM); exact rfl; infer_instance; infer_instance; (try simp only [Act.put, List.setIfInBounds_toArray, List.set_cons_zero, List.set_cons_succ])) | ((with_reducible apply sl_store HM); exact rfl; (first | exact Ev.tmp rfl | exact Ev.const); infer_instance; infer_instance; infer_instance; clear HM; (try clear wq); intro wq HM; (try simp only [Act.put, List.setIfInBounds_toArray, List.set_cons_zero, List.set_cons_succ])) | ((with_reducible apply sl_loadR); exact rfl; assumption; (try simp only [Act.put, List.setIfInBounds_toArray, List.set_cons_zero, List.set_cons_succ])) | ((with_reducible apply sl_loadH HM); exact rfl; assumption; infer_instance; (try simp only [Act.put, List.setIfInBounds_toArray, List.set_cons_zero, List.set_cons_succ])) | ((with_reducible refine gate_dst (N := 9) rfl ?_); (with_reducible apply sl_alloc HM); infer_instance; clear HM; (try clear wq); intro g9 wq HM; (try simp only [Act.put, List.setIfInBounds_toArray, List.set_cons_zero, List.set_cons_succ])) | ((with_reducible refine gate_dst (N := 11) rfl ?_); (with_reducible apply sl_alloc HM); infer_instance; clear HM; (try clear wq); intro g11 wq HM; (try simp only [Act.put, List.setIfInBounds_toArray, List.set_cons_zero, List.set_cons_succ])))
      exact sl_ret1 rfl (vals_tmp rfl .nil) ⟨rfl, HM.below⟩
end Go.Proofs.Ytghfoooldcbdnaa
