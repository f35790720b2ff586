/-
  PART 18 OF THE PROOF OF SyncinEnds: laid together from the proof's own texts: Tlk.
-/
import Derived.Test.YtghfoooldcbdnaaEnd13
import Derived.Test.YtghfoooldcbdnaaEnd17
set_option linter.unusedVariables false
set_option linter.unusedSimpArgs false
namespace Go.Proofs.Ytghfoooldcbdnaa
open Go.RowKit Go.Proofs.Ytghfoooldcbdnaa.SL Go.Proofs.YtghfoooldcbdnaaW.PrintWords

set_option maxHeartbeats 8000000 in
set_option maxRecDepth 100000 in
theorem SyncinEnds_walk (W : World) (A : Option Addr) (l : List StE) (c : Nat) (hr : Reads W A (l.flatMap StE.cells)) (hq : ∀ x ∈ l, V.RecQ x.r) (hm : l.length ≤ maxLen) :
    Calls Try.prog 9 #[.slice A l.length c] W fun e w' => e = .returned (.bool true) ∧ Below W.heap.size W w' := by
  have HM := Mod.start W
  have HR := Aside0.mk hr
  have HQ := Aside0.mk hq
  clear hr hq hm
  by_cases hlen : 200 < l.length
  · have E : decide (200 < (l.length : Int)) = true := decide_eq_true (by omega)
    go_enter Try.func9, Try.ntmps9
    go_wp2_with first | (go_at_call 30; refine (sndNew_ok 9 5 (by decide) _).mono ?_; rintro e wq ⟨g, rfl, hj⟩; have HM1 := HM.join hj; clear HM hj; have HM := HM1; clear HM1; simp only [List.cons_append, List.nil_append] at HM) | (go_at_call 20; (with_reducible refine (New_calls _).mono ?_); rintro e wq ⟨gr, rfl, hj⟩; have HM1 := HM.join hj; clear HM hj; have HM := HM1; clear HM1; simp only [List.cons_append, List.nil_append] at HM) | (go_at_call 21; (with_reducible refine (alive_calls _).mono ?_); rintro e wq ⟨rfl, hj⟩; have HM1 := HM.step hj.below; clear HM hj; have HM := HM1; clear HM1) | (first | ((with_reducible apply sl_want); exact rfl))
    exact sl_ret1 rfl (vals_tmp rfl .nil) ⟨rfl, HM.below⟩
  have E : decide (200 < (l.length : Int)) = false := decide_eq_false (by omega)
  have hln : l.length ≤ 200 := by omega
  clear hlen
  go_enter Try.func9, Try.ntmps9
  go_wp2_with first | (go_at_call 30; refine (sndNew_ok 9 5 (by decide) _).mono ?_; rintro e wq ⟨g, rfl, hj⟩; have HM1 := HM.join hj; clear HM hj; have HM := HM1; clear HM1; simp only [List.cons_append, List.nil_append] at HM) | (go_at_call 20; (with_reducible refine (New_calls _).mono ?_); rintro e wq ⟨gr, rfl, hj⟩; have HM1 := HM.join hj; clear HM hj; have HM := HM1; clear HM1; simp only [List.cons_append, List.nil_append] at HM) | (first | ((with_reducible apply sl_want); exact rfl) | ((with_reducible refine gate_dst (N := 51) rfl ?_); (with_reducible apply sl_box HM); (first | exact Ev.tmp rfl); exact rfl; clear HM; (try clear wq); intro g51 wq HM; (try simp only [Act.put, List.setIfInBounds_toArray, List.set_cons_zero, List.set_cons_succ])))
  clear E
  go_loopw [7, 54] (fun v7 v54 wr => ∃ (k : Nat) (T : TK) (N : Nat) (a : List Fl) (A7 : Option Addr) (c7 : Nat), v7 = .slice A7 a.length c7 ∧ v54 = .int .i64 k ∧ k ≤ l.length ∧ a.length ≤ k ∧ Aside0 (TS T k N a) ∧ Aside0 (SL.Mod W.heap.size W [tlk g gr g51 T N, row (.slice A7 a.length c7) 51 5 a.length (fls a)] wr)) (fun _ v54 _ => l.length - (intOf v54).toNat)
  case atStart => exact ⟨0, _, 0, [], none, 0, rfl, rfl, by omega, by simp, ⟨TS.new⟩, ⟨by
      have HM2 : SL.Mod W.heap.size W (snd g (SS.new 9 5) :: cells gr RS.new.cells 127 :: cells g51 [.pointer (some ⟨g, 0, none⟩), .pointer (some ⟨gr, 0, none⟩), .slice none 0 0, .slice none 0 0, .slice none 0 0, .slice none 0 0] 90 :: []) _ := HM.sub
      have HM1 : SL.Mod W.heap.size W (row (.slice none 0 0) 51 5 ([] : List Fl).length (fls []) :: _) _ := (Mod.nilTlk HM2).nilRow 51 5
      exact HM1.sub⟩⟩
  case round =>
    obtain ⟨k, T, N, a, A7, c7, rfl, rfl, hk, hak, HB, HM0⟩ := hrel
    clear HM
    have HM := HM0.out
    clear HM0
    by_cases hlt : k < l.length
    · obtain ⟨ad, rfl⟩ := HR.out.addr (by rw [flat_len ste_len]; omega)
      obtain ⟨o, hok⟩ : ∃ o, l[k]? = some o := ⟨_, List.getElem?_eq_getElem hlt⟩
      have hld : Aside0 (∀ w', SL.Mod W.heap.size W [] w' → Sem.run Try.prog (Instr.loadAt 92 (.pointer (some (ad.add (k * 11))))) w' = .ok (.agg o.cells.toArray) w') := ⟨fun w' h => ste_load (HR.out.below h.below) hok⟩
      have HO := Aside0.mk (HQ.out o (List.mem_of_getElem? hok))
      clear hok
      obtain ⟨kind, sn, sr, taken⟩ := o
      simp only [StE.cells] at hld
      by_cases h0 : kind = 0
      · subst h0
        cases hy : sr.ok with
        | true =>
          have HY := Aside0.mk hy
          clear hy
          go_wp2_with first | (go_at_call 43; have HMq : SL.Mod W.heap.size W (tlk g gr g51 T N :: _) _ := HM.pick (tlk g gr g51 T N); refine (step_calls g gr g51 T N k 1000000 ⟨0, sn, sr, taken⟩ k (HB.out.ti.tk (by omega)) (by omega) (by omega) (HB.out.ti.n (by omega)) HO.out _ _ _ _ HMq).mono ?_; clear HMq; rintro e wq ⟨rfl, HM1⟩; clear HM; have HM := HM1; clear HM1) | (go_at_call 44; refine (right14_calls sr (Nat.le_trans HO.out.1 (by decide)) (Nat.le_trans HO.out.2 (by decide)) _).mono ?_; rintro e wq ⟨rfl, hj⟩; have HM1 := HM.step hj.below; clear HM hj; have HM := HM1; clear HM1; rw [HY.out]) | (first | ((with_reducible apply sl_want); exact rfl) | ((with_reducible apply sl_load HM); exact rfl; infer_instance; infer_instance; (try simp only [Act.put, List.setIfInBounds_toArray, List.set_cons_zero, List.set_cons_succ])) | ((with_reducible apply sl_store HM); exact rfl; (first | exact Ev.tmp rfl); infer_instance; infer_instance; infer_instance; clear HM; (try clear wq); intro wq HM; (try simp only [Act.put, List.setIfInBounds_toArray, List.set_cons_zero, List.set_cons_succ])) | ((with_reducible apply sl_loadH HM); exact rfl; assumption; infer_instance; (try simp only [Act.put, List.setIfInBounds_toArray, List.set_cons_zero, List.set_cons_succ])) | ((with_reducible refine gate_dst (N := 9) rfl ?_); (with_reducible apply sl_alloc HM); infer_instance; clear HM; (try clear wq); intro g9 wq HM; (try simp only [Act.put, List.setIfInBounds_toArray, List.set_cons_zero, List.set_cons_succ])) | ((with_reducible refine gate_dst (N := 75) rfl ?_); (with_reducible apply sl_lit HM); (focus (go_simp; (try rfl); done)); clear HM; (try clear wq); intro g75 wq HM; (try simp only [Act.put, List.setIfInBounds_toArray, List.set_cons_zero, List.set_cons_succ])) | ((with_reducible refine gate_dst (N := 76) rfl ?_); (with_reducible apply sl_append_lit HM); (first | exact Ev.tmp rfl); infer_instance; (first | exact Ev.tmp rfl); infer_instance; infer_instance; exact rfl; infer_instance; (first | omega); clear HM; (try clear wq); intro v76 wq HM; (try simp only [Act.put, List.setIfInBounds_toArray, List.set_cons_zero, List.set_cons_succ]); haveI := HM.rowOne v76))
          obtain ⟨A76, c76, rfl, _⟩ := row_slice (HM.rowOwn v76)
          have e1 : a.length + 1 = (a ++ [sr.fl]).length := by simp
          rw [fls_snoc, e1] at HM
          rw [e1]
          exact ⟨⟨k + 1, _, N + 64, a ++ [sr.fl], A76, c76, rfl, rfl, hlt, by simp; omega, ⟨HB.out.added (by omega) (x := ⟨0, sn, sr, taken⟩) rfl HY.out⟩, ⟨HM.sub⟩⟩, by simp only [intOf]; omega⟩
        | false =>
          have HY := Aside0.mk hy
          clear hy
          go_wp2_with first | (go_at_call 43; have HMq : SL.Mod W.heap.size W (tlk g gr g51 T N :: _) _ := HM.pick (tlk g gr g51 T N); refine (step_calls g gr g51 T N k 1000000 ⟨0, sn, sr, taken⟩ k (HB.out.ti.tk (by omega)) (by omega) (by omega) (HB.out.ti.n (by omega)) HO.out _ _ _ _ HMq).mono ?_; clear HMq; rintro e wq ⟨rfl, HM1⟩; clear HM; have HM := HM1; clear HM1) | (go_at_call 44; refine (right14_calls sr (Nat.le_trans HO.out.1 (by decide)) (Nat.le_trans HO.out.2 (by decide)) _).mono ?_; rintro e wq ⟨rfl, hj⟩; have HM1 := HM.step hj.below; clear HM hj; have HM := HM1; clear HM1; rw [HY.out]) | (first | ((with_reducible apply sl_want); exact rfl) | ((with_reducible apply sl_load HM); exact rfl; infer_instance; infer_instance; (try simp only [Act.put, List.setIfInBounds_toArray, List.set_cons_zero, List.set_cons_succ])) | ((with_reducible apply sl_store HM); exact rfl; (first | exact Ev.tmp rfl); infer_instance; infer_instance; infer_instance; clear HM; (try clear wq); intro wq HM; (try simp only [Act.put, List.setIfInBounds_toArray, List.set_cons_zero, List.set_cons_succ])) | ((with_reducible apply sl_loadH HM); exact rfl; assumption; infer_instance; (try simp only [Act.put, List.setIfInBounds_toArray, List.set_cons_zero, List.set_cons_succ])) | ((with_reducible refine gate_dst (N := 9) rfl ?_); (with_reducible apply sl_alloc HM); infer_instance; clear HM; (try clear wq); intro g9 wq HM; (try simp only [Act.put, List.setIfInBounds_toArray, List.set_cons_zero, List.set_cons_succ])))
          exact ⟨⟨k + 1, _, N + 64, a, A7, c7, rfl, rfl, hlt, by omega, ⟨HB.out.step (by omega) ⟨0, sn, sr, taken⟩⟩, ⟨HM.sub⟩⟩, by simp only [intOf]; omega⟩
      · have e0 : (kind == 0) = false := by simpa using h0
        clear h0
        go_wp2_with first | (go_at_call 43; have HMq : SL.Mod W.heap.size W (tlk g gr g51 T N :: _) _ := HM.pick (tlk g gr g51 T N); refine (step_calls g gr g51 T N k 1000000 ⟨kind, sn, sr, taken⟩ k (HB.out.ti.tk (by omega)) (by omega) (by omega) (HB.out.ti.n (by omega)) HO.out _ _ _ _ HMq).mono ?_; clear HMq; rintro e wq ⟨rfl, HM1⟩; clear HM; have HM := HM1; clear HM1) | (first | ((with_reducible apply sl_load HM); exact rfl; infer_instance; infer_instance; (try simp only [Act.put, List.setIfInBounds_toArray, List.set_cons_zero, List.set_cons_succ])) | ((with_reducible apply sl_store HM); exact rfl; (first | exact Ev.tmp rfl); infer_instance; infer_instance; infer_instance; clear HM; (try clear wq); intro wq HM; (try simp only [Act.put, List.setIfInBounds_toArray, List.set_cons_zero, List.set_cons_succ])) | ((with_reducible apply sl_loadH HM); exact rfl; assumption; infer_instance; (try simp only [Act.put, List.setIfInBounds_toArray, List.set_cons_zero, List.set_cons_succ])) | ((with_reducible refine gate_dst (N := 9) rfl ?_); (with_reducible apply sl_alloc HM); infer_instance; clear HM; (try clear wq); intro g9 wq HM; (try simp only [Act.put, List.setIfInBounds_toArray, List.set_cons_zero, List.set_cons_succ])))
        exact ⟨⟨k + 1, _, N + 64, a, A7, c7, rfl, rfl, hlt, by omega, ⟨HB.out.step (by omega) ⟨kind, sn, sr, taken⟩⟩, ⟨HM.sub⟩⟩, by simp only [intOf]; omega⟩
    · have ha4 : a.length ≤ 200 := by omega
      have HL0 : Aside0 (TR T N a 0) := ⟨HB.out.start (by omega)⟩
      go_wp2_with (first | ((with_reducible refine gate_dst (N := 12) rfl ?_); (with_reducible apply sl_alloc HM); infer_instance; clear HM; (try clear wq); intro g12 wq HM; (try simp only [Act.put, List.setIfInBounds_toArray, List.set_cons_zero, List.set_cons_succ])))
      go_loopw [10, 78] (fun v10 v78 wr => ∃ (i : Nat) (T : TK) (N : Nat), v78 = .int .i64 i ∧ i ≤ 100 ∧ Aside0 (TR T N a i) ∧ Aside0 (SL.Mod W.heap.size W [tlk g gr g51 T N, row (.slice A7 a.length c7) 51 5 a.length (fls a)] wr)) (fun _ v78 _ => 100 - (intOf v78).toNat)
      case atStart => exact ⟨0, T, N, rfl, by omega, HL0, ⟨HM⟩⟩
      case round =>
        clear HB HL0 HM
        clear T N
        obtain ⟨i, T, N, rfl, hi, HL, HM0⟩ := hrel
        have HM := HM0.out
        clear HM0
        by_cases hlt2 : i < 100
        · go_wp2_with first | (go_at_call 43; have HMq : SL.Mod W.heap.size W (tlk g gr g51 T N :: _) _ := HM.pick (tlk g gr g51 T N); refine (step_calls g gr g51 T N 200 1000000 stSend (1000 + 10 * (i : Int)) (HL.out.ti.tk (by omega)) (by omega) (by omega) (HL.out.ti.n (by omega)) noRec_q _ _ _ _ HMq).mono ?_; clear HMq; rintro e wq ⟨rfl, HM1⟩; clear HM; have HM := HM1; clear HM1)
          have HD0 : Aside0 (TD (T.step stSend (1000 + 10 * (i : Int))) (N + 64) a i) := ⟨HL.out.send hlt2⟩
          clear HL
          obtain ⟨wo, rfl⟩ : ∃ wo : World, wo = wr := ⟨_, rfl⟩
          go_loopw [87] (fun v87 wr => ∃ (T : TK) (N : Nat), Aside0 (TD T N a i) ∧ Aside0 (SL.Mod W.heap.size W [tlk g gr g51 T N, row (.slice A7 a.length c7) 51 5 a.length (fls a)] wr)) (fun _ wr => lenAt wr g51 2)
          case atStart => exact ⟨_, _, HD0, ⟨HM.sub⟩⟩
          case round =>
            clear HD0 HM
            clear T N
            obtain ⟨T, N, HL, HM0⟩ := hrel
            have HM := HM0.out
            clear HM0
            have HLA := Aside0.mk (tlk_len HM)
            have HTK := Aside0.mk (HL.out.ti.tk (by omega))
            cases hb : T.bs with
            | cons b t =>
              have HBS := Aside0.mk hb
              clear hb
              (obtain ⟨S, vB, vA, bl, Af, cf, At, ct, n, fl, tk, ⟨h1, h2, h3, h4, h5⟩, HM1⟩ := Mod.openTlk (HM.pick (tlk g gr g51 T N)); clear HM; have HM := HM1; obtain ⟨Ab, cb, rfl, -, -, -⟩ := (HM1.pick (qrow vB 61 3 bl.length (bts 9 bl))).qSlice; obtain ⟨Aa, ca, rfl, -, -, -⟩ := (HM1.pick (qrow vA 42 4 T.ans.length (anss T.ans))).qSlice; have H1 := Aside0.mk h1; have H2 := Aside0.mk h2; have H3 := Aside0.mk h3; have H4 := Aside0.mk h4; have H5 := Aside0.mk h5; clear HM1 h1 h2 h3 h4 h5)
              have e1 : 0 < bl.length := by have h6 := congrArg List.length H2.out; rw [List.length_map, HBS.out, List.length_cons] at h6; omega
              go_wp2_with first | (go_at_call 43; have HMq : SL.Mod W.heap.size W (tlk g gr g51 T N :: _) _ := Mod.closeTlk (show SL.Mod W.heap.size W (tlkL g gr g51 S T.r (.slice Ab bl.length cb) (.slice Aa T.ans.length ca) bl T.ans Af cf At ct n fl tk _) _ from HM) H1.out H2.out H3.out H4.out H5.out rfl rfl; refine (step_calls g gr g51 T N 200 1000000 stCome (1000 + 10 * (i : Int)) HTK.out (by omega) (by omega) (HL.out.ti.n (by omega)) noRec_q _ _ _ _ HMq).mono ?_; clear HMq; rintro e wq ⟨rfl, HM1⟩; clear HM; have HM := HM1; clear HM1) | (first | ((with_reducible apply sl_load HM); exact rfl; infer_instance; infer_instance; (try simp only [Act.put, List.setIfInBounds_toArray, List.set_cons_zero, List.set_cons_succ])))
              have h5 := HL.out.come (by rw [HBS.out]; simp) (1000 + 10 * (i : Int))
              exact ⟨⟨_, _, ⟨h5⟩, ⟨HM.sub⟩⟩, by
                have h6 := tlk_len (HM.pick (tlk g gr g51 (T.step stCome (1000 + 10 * (i : Int))) (N + 64)))
                rw [h6.1, HLA.out.1, tk_comeStep HBS.out, HBS.out]
                simp⟩
            | nil =>
              have HD1 := Aside0.mk (HL.out.done hb)
              have HBS := Aside0.mk hb
              clear hb HL
              (obtain ⟨S, vB, vA, bl, Af, cf, At, ct, n, fl, tk, ⟨h1, h2, h3, h4, h5⟩, HM1⟩ := Mod.openTlk (HM.pick (tlk g gr g51 T N)); clear HM; have HM := HM1; obtain ⟨Ab, cb, rfl, -, -, -⟩ := (HM1.pick (qrow vB 61 3 bl.length (bts 9 bl))).qSlice; obtain ⟨Aa, ca, rfl, -, -, -⟩ := (HM1.pick (qrow vA 42 4 T.ans.length (anss T.ans))).qSlice; have H1 := Aside0.mk h1; have H2 := Aside0.mk h2; have H3 := Aside0.mk h3; have H4 := Aside0.mk h4; have H5 := Aside0.mk h5; clear HM1 h1 h2 h3 h4 h5)
              have e1 : ¬ 0 < bl.length := by have h6 := congrArg List.length H2.out; rw [List.length_map, HBS.out, List.length_nil] at h6; omega
              go_wp2_with (first | ((with_reducible apply sl_load HM); exact rfl; infer_instance; infer_instance; (try simp only [Act.put, List.setIfInBounds_toArray, List.set_cons_zero, List.set_cons_succ])))
              (have HM1 : SL.Mod W.heap.size W (tlk g gr g51 T N :: _) _ := Mod.closeTlk (show SL.Mod W.heap.size W (tlkL g gr g51 S T.r (.slice Ab bl.length cb) (.slice Aa T.ans.length ca) bl T.ans Af cf At ct n fl tk _) _ from HM) H1.out H2.out H3.out H4.out H5.out rfl rfl; clear HM; have HM := HM1; clear HM1 H1 H2 H3 H4 H5 e1)
              clear HLA HTK HBS
              obtain ⟨wo2, rfl⟩ : ∃ wo2 : World, wo2 = wr := ⟨_, rfl⟩
              go_loopw [99] (fun v99 wr => ∃ (T : TK) (N : Nat), Aside0 (TQ T N a i) ∧ Aside0 (SL.Mod W.heap.size W [tlk g gr g51 T N, row (.slice A7 a.length c7) 51 5 a.length (fls a)] wr)) (fun _ wr => lenAt wr g51 3)
              case atStart => exact ⟨_, _, HD1, ⟨HM.sub⟩⟩
              case round =>
                clear HD1 HM
                clear T N
                obtain ⟨T, N, HL, HM0⟩ := hrel
                have HM := HM0.out
                clear HM0
                have HLA := Aside0.mk (tlk_len HM)
                have HTK := Aside0.mk (HL.out.ti.tk (by omega))
                cases hb : T.ans with
                | cons b t =>
                  have HBS := Aside0.mk hb
                  clear hb
                  (obtain ⟨S, vB, vA, bl, Af, cf, At, ct, n, fl, tk, ⟨h1, h2, h3, h4, h5⟩, HM1⟩ := Mod.openTlk (HM.pick (tlk g gr g51 T N)); clear HM; have HM := HM1; obtain ⟨Ab, cb, rfl, -, -, -⟩ := (HM1.pick (qrow vB 61 3 bl.length (bts 9 bl))).qSlice; obtain ⟨Aa, ca, rfl, -, -, -⟩ := (HM1.pick (qrow vA 42 4 T.ans.length (anss T.ans))).qSlice; have H1 := Aside0.mk h1; have H2 := Aside0.mk h2; have H3 := Aside0.mk h3; have H4 := Aside0.mk h4; have H5 := Aside0.mk h5; clear HM1 h1 h2 h3 h4 h5)
                  have e1 : 0 < T.ans.length := by rw [HBS.out, List.length_cons]; omega
                  go_wp2_with first | (go_at_call 43; have HMq : SL.Mod W.heap.size W (tlk g gr g51 T N :: _) _ := Mod.closeTlk (show SL.Mod W.heap.size W (tlkL g gr g51 S T.r (.slice Ab bl.length cb) (.slice Aa T.ans.length ca) bl T.ans Af cf At ct n fl tk _) _ from HM) H1.out H2.out H3.out H4.out H5.out rfl rfl; refine (step_calls g gr g51 T N 200 1000000 stAnsw (1000 + 10 * (i : Int)) HTK.out (by omega) (by omega) (HL.out.ti.n (by omega)) noRec_q _ _ _ _ HMq).mono ?_; clear HMq; rintro e wq ⟨rfl, HM1⟩; clear HM; have HM := HM1; clear HM1) | (first | ((with_reducible apply sl_load HM); exact rfl; infer_instance; infer_instance; (try simp only [Act.put, List.setIfInBounds_toArray, List.set_cons_zero, List.set_cons_succ])))
                  have h5 := HL.out.answ (by rw [HBS.out]; simp) (1000 + 10 * (i : Int))
                  exact ⟨⟨_, _, ⟨h5⟩, ⟨HM.sub⟩⟩, by
                    have h6 := tlk_len (HM.pick (tlk g gr g51 (T.step stAnsw (1000 + 10 * (i : Int))) (N + 64)))
                    rw [h6.2, HLA.out.2, tk_answStep HBS.out, HBS.out]
                    simp⟩
                | nil =>
                  have HD1 := Aside0.mk (HL.out.done hb)
                  have HBS := Aside0.mk hb
                  clear hb HL
                  (obtain ⟨S, vB, vA, bl, Af, cf, At, ct, n, fl, tk, ⟨h1, h2, h3, h4, h5⟩, HM1⟩ := Mod.openTlk (HM.pick (tlk g gr g51 T N)); clear HM; have HM := HM1; obtain ⟨Ab, cb, rfl, -, -, -⟩ := (HM1.pick (qrow vB 61 3 bl.length (bts 9 bl))).qSlice; obtain ⟨Aa, ca, rfl, -, -, -⟩ := (HM1.pick (qrow vA 42 4 T.ans.length (anss T.ans))).qSlice; have H1 := Aside0.mk h1; have H2 := Aside0.mk h2; have H3 := Aside0.mk h3; have H4 := Aside0.mk h4; have H5 := Aside0.mk h5; clear HM1 h1 h2 h3 h4 h5)
                  have e1 : ¬ 0 < T.ans.length := by rw [HBS.out, List.length_nil]; omega
                  go_wp2_with (first | ((with_reducible apply sl_load HM); exact rfl; infer_instance; infer_instance; (try simp only [Act.put, List.setIfInBounds_toArray, List.set_cons_zero, List.set_cons_succ])))
                  (have HM1 : SL.Mod W.heap.size W (tlk g gr g51 T N :: _) _ := Mod.closeTlk (show SL.Mod W.heap.size W (tlkL g gr g51 S T.r (.slice Ab bl.length cb) (.slice Aa T.ans.length ca) bl T.ans Af cf At ct n fl tk _) _ from HM) H1.out H2.out H3.out H4.out H5.out rfl rfl; clear HM; have HM := HM1; clear HM1 H1 H2 H3 H4 H5 e1)
                  exact ⟨⟨i + 1, T, N, rfl, hlt2, HD1, ⟨HM.sub⟩⟩, by simp only [intOf]; omega⟩
        · have hi6 : i = 100 := by omega
          have HZ : Aside0 (T.P.q.length = 0 ∧ T.P.rg.length = 0 ∧ ∀ f ∈ a, 2 ≤ (kmk T.P.kn f).1) := ⟨by have h1 := HL.out; rw [hi6] at h1; exact h1.done⟩
          clear hi6 HL
          (obtain ⟨S, vB, vA, bl, Af, cf, At, ct, n, fl, tk, ⟨h1, h2, h3, h4, h5⟩, HM1⟩ := Mod.openTlk (HM.pick (tlk g gr g51 T N)); clear HM; have HM := HM1; obtain ⟨Ab, cb, rfl, -, -, -⟩ := (HM1.pick (qrow vB 61 3 bl.length (bts 9 bl))).qSlice; obtain ⟨Aa, ca, rfl, -, -, -⟩ := (HM1.pick (qrow vA 42 4 T.ans.length (anss T.ans))).qSlice; have H1 := Aside0.mk h1; have H2 := Aside0.mk h2; have H3 := Aside0.mk h3; have H4 := Aside0.mk h4; have H5 := Aside0.mk h5; clear HM1 h1 h2 h3 h4 h5)
          go_wp2_with (first | ((with_reducible refine gate_dst (N := 12) rfl ?_); (with_reducible apply sl_alloc HM); infer_instance; clear HM; (try clear wq); intro g12 wq HM; (try simp only [Act.put, List.setIfInBounds_toArray, List.set_cons_zero, List.set_cons_succ])))
          go_loopw [12, 114] (fun v12 v114 wr => ∃ (j : Nat), v114 = .int .i64 j ∧ j ≤ a.length ∧ Aside0 (SL.Mod W.heap.size W [snd g S, row (.slice A7 a.length c7) 51 5 a.length (fls a)] wr)) (fun _ v114 _ => a.length - (intOf v114).toNat)
          case atStart => exact ⟨0, rfl, by omega, ⟨HM.sub⟩⟩
          case round =>
            obtain ⟨j, rfl, hj, HM0⟩ := hrel
            clear HM
            have HM := HM0.out
            clear HM0
            by_cases hjl : j < a.length
            · obtain ⟨f, hf⟩ : ∃ f, a[j]? = some f := ⟨_, List.getElem?_eq_getElem hjl⟩
              obtain ⟨ad2, rfl⟩ := fl_addr (A := A7) (c := c7) (n := a.length) HM hf
              have hl2 : Aside0 (∀ w', SL.Mod W.heap.size W [row (.slice (some ad2) a.length c7) 51 5 a.length (fls a)] w' → Sem.run Try.prog (Instr.loadAt 51 (.pointer (some (ad2.add (j * 5))))) w' = .ok (.agg f.cells.toArray) w') := ⟨fun w' h => fl_load (ad := ad2) (c := c7) (n := a.length) h hf⟩
              have HK := Aside0.mk (HZ.out.2.2 f (List.mem_of_getElem? hf))
              obtain ⟨pr, fr, tt, po, de⟩ := f
              simp only [Fl.cells] at hl2
              clear hf
              have e2 : decide ((kmk S.p.kn ⟨pr, fr, tt, po, de⟩).1 < 2) = false := decide_eq_false (by have := HK.out; rw [H1.out]; omega)
              go_wp2_with first | (go_at_call 45; have HMq : SL.Mod W.heap.size W (snd g S :: _) _ := HM.pick (snd g S); refine (KnownK (S := S) ⟨pr, fr, tt, po, de⟩ HMq).mono ?_; clear HMq; rintro e wq ⟨rfl, HM1⟩; clear HM; have HM := HM1; clear HM1) | (first | ((with_reducible apply sl_load HM); exact rfl; infer_instance; infer_instance; (try simp only [Act.put, List.setIfInBounds_toArray, List.set_cons_zero, List.set_cons_succ])) | ((with_reducible apply sl_store HM); exact rfl; (first | exact Ev.tmp rfl); infer_instance; infer_instance; infer_instance; clear HM; (try clear wq); intro wq HM; (try simp only [Act.put, List.setIfInBounds_toArray, List.set_cons_zero, List.set_cons_succ])) | ((with_reducible apply sl_loadH HM); exact rfl; assumption; infer_instance; (try simp only [Act.put, List.setIfInBounds_toArray, List.set_cons_zero, List.set_cons_succ])) | ((with_reducible refine gate_dst (N := 12) rfl ?_); (with_reducible apply sl_alloc HM); infer_instance; clear HM; (try clear wq); intro g12 wq HM; (try simp only [Act.put, List.setIfInBounds_toArray, List.set_cons_zero, List.set_cons_succ])))
              exact ⟨⟨j + 1, rfl, hjl, ⟨HM.sub⟩⟩, by simp only [intOf]; omega⟩
            · go_wp2_with first | (go_at_call 37; have HMq : SL.Mod W.heap.size W (snd g S :: _) _ := HM.pick (snd g S); refine (WaitingK (S := S) HMq).mono ?_; clear HMq; rintro e wq ⟨rfl, HM1⟩; clear HM; have HM := HM1; clear HM1; rw [H1.out, HZ.out.1, HZ.out.2.1]) | (go_at_call 21; (with_reducible refine (alive_calls _).mono ?_); rintro e wq ⟨rfl, hj⟩; have HM1 := HM.step hj.below; clear HM hj; have HM := HM1; clear HM1) | (first | ((with_reducible apply sl_want); exact rfl))
              exact sl_ret1 rfl (vals_tmp rfl .nil) ⟨rfl, HM.below⟩
end Go.Proofs.Ytghfoooldcbdnaa
