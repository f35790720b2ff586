/-
  THE DOCUMENT's SENDER (outriderref15): Take.
-/
import Derived.Test.YtghfoooldcbdnaaR15a
set_option linter.unusedVariables false
set_option linter.unusedSimpArgs false
namespace Go.Proofs.Ytghfoooldcbdnaa
open Go.RowKit Go.Proofs.Ytghfoooldcbdnaa.SL Go.Proofs.YtghfoooldcbdnaaW.PrintWords
theorem sn_load {w : World} {ad : Addr} {s : Int} {l : List Sn} (h : Reads w (some ad) (sents s l)) {j : Nat} {x : Sn} (hx : l[j]? = some x) : (Instr.loadAt 162 (.pointer (some (ad.add (j * 4))))).run Try.prog w = .ok (.agg (x.cells s).toArray) w :=
  load_seg h (j * 4) (flat_seg (sn_len s) l j x hx) (sn_len s x)
theorem sents_app (s : Int) (l : List Sn) (x : Sn) : sents s l ++ [.int .i64 s, .int .i64 x.n, .slice x.A x.l.length x.c, .int .i64 x.due] = sents s (l ++ [x]) := by
  simp only [sents, List.flatMap_append, List.flatMap_cons, List.flatMap_nil, List.append_nil]
theorem tds_app (s : Int) (l : List Td) (x : Td) : tds s l ++ [.int .i64 s, .int .i64 x.n, .slice x.A x.l.length x.c, .int .u64 x.f] = tds s (l ++ [x]) := by
  simp only [tds, List.flatMap_append, List.flatMap_cons, List.flatMap_nil, List.append_nil]
instance tds_ones (s : Int) (l : List Td) : Ones (tds s l) := ⟨by
  intro u hu
  obtain ⟨r, _, hr⟩ := List.mem_flatMap.1 hu
  simp only [Td.cells, List.mem_cons, List.not_mem_nil, or_false] at hr
  rcases hr with rfl | rfl | rfl | rfl <;> rfl⟩
theorem itR_map {f : Sn → Sn} (hA : ∀ x, (f x).A = x.A) (hl : ∀ x, (f x).l = x.l) (l : List Sn) : itR (l.map f) = itR l := by
  unfold itR
  rw [List.map_map]
  apply List.map_congr_left
  intro x _
  simp [hA, hl]
theorem late_A (an now : Int) (x : Sn) : (x.late an now).A = x.A := by unfold Sn.late; split <;> rfl
theorem late_l (an now : Int) (x : Sn) : (x.late an now).l = x.l := by unfold Sn.late; split <;> rfl
/-- The ring anew, of the same batches. -/
theorem Mod.rvR {B : Nat} {w0 w : World} {H : List As} {R : RV} {A : Option Addr} {c n : Nat} {rg : List Sn} (h : SL.Mod B w0 (row (.slice A n c) 162 4 n (sents R.s rg) :: frz R.items :: H) w) (hs : ∀ p ∈ itR rg, p ∈ itR R.rg) : SL.Mod B w0 (frz ({ R with rg := rg, AR := A, cR := c } : RV).items :: H) w :=
  (Mod.frzRow h).frzSub (fun p hp => by
    simp only [RV.items, List.mem_cons, List.mem_append] at hp ⊢
    rcases hp with h | h | h | h | h
    · exact .inr (.inl h)
    · exact .inl h
    · exact .inr (.inr (.inr (.inl h)))
    · exact .inr (.inr (.inr (.inr (.inl (hs p h)))))
    · exact .inr (.inr (.inr (.inr (.inr h)))))
def RTakePost (R : RV) (as0 an af now : Int) (ag : Bool) (B : Nat) (w0 : World) (H : List As) (e : Ending) (w' : World) : Prop :=
  ∃ R' : RV, e = .returned (.tuple #[.agg R'.cells.toArray, .bool (R.p.take as0 an ag af now).2]) ∧ R'.p = (R.p.take as0 an ag af now).1 ∧ R'.q.length ≤ R'.cQ ∧ SL.Mod B w0 (frz R'.items :: H) w'
set_option maxHeartbeats 4000000 in
set_option maxRecDepth 100000 in
theorem rTake_other (R : RV) (as0 an af now : Int) (ag : Bool) (ho : R.Ok) (hs : as0 ≠ R.s) (B : Nat) (w0 w : World) (H : List As) (HM : SL.Mod B w0 (frz R.items :: H) w) :
    Calls Try.prog 87 #[.agg R.cells.toArray, .agg (ansC as0 an ag af).toArray, .int .i64 now] w (RTakePost R as0 an af now ag B w0 H) := by
  have HOK := Aside0.mk ho
  have E : Aside0 (R.p.take as0 an ag af now = (R.p, false)) := ⟨by unfold RP.take; rw [if_neg (show ¬ as0 = R.p.s from hs)]⟩
  have e0 : (as0 != R.s) = true := by simpa using hs
  clear hs ho
  unfold RTakePost
  go_enter Try.func87, Try.ntmps87
  go_wp2_with (first | go_step3 | ((with_reducible apply sl_want); exact rfl) | ((with_reducible apply sl_load HM); exact rfl; infer_instance; infer_instance; (try simp only [Act.put, List.setIfInBounds_toArray, List.set_cons_zero, List.set_cons_succ])) | ((with_reducible apply sl_store HM); exact rfl; (first | exact Ev.tmp rfl | exact Ev.const); infer_instance; infer_instance; infer_instance; clear HM; (try clear wq); intro wq HM; (try simp only [Act.put, List.setIfInBounds_toArray, List.set_cons_zero, List.set_cons_succ])) | ((with_reducible apply sl_loadR); exact rfl; assumption; (try simp only [Act.put, List.setIfInBounds_toArray, List.set_cons_zero, List.set_cons_succ])) | ((with_reducible apply sl_loadH HM); exact rfl; assumption; infer_instance; (try simp only [Act.put, List.setIfInBounds_toArray, List.set_cons_zero, List.set_cons_succ])) | ((with_reducible refine gate_dst (N := 3) rfl ?_); (with_reducible apply sl_box HM); (first | exact Ev.tmp rfl | exact Ev.const); exact rfl; clear HM; (try clear wq); intro g3 wq HM; (try simp only [Act.put, List.setIfInBounds_toArray, List.set_cons_zero, List.set_cons_succ])) | ((with_reducible refine gate_dst (N := 4) rfl ?_); (with_reducible apply sl_box HM); (first | exact Ev.tmp rfl | exact Ev.const); exact rfl; clear HM; (try clear wq); intro g4 wq HM; (try simp only [Act.put, List.setIfInBounds_toArray, List.set_cons_zero, List.set_cons_succ])) | ((with_reducible refine gate_dst (N := 6) rfl ?_); (with_reducible apply sl_alloc HM); infer_instance; clear HM; (try clear wq); intro g6 wq HM; (try simp only [Act.put, List.setIfInBounds_toArray, List.set_cons_zero, List.set_cons_succ])) | ((with_reducible refine gate_dst (N := 11) rfl ?_); (with_reducible apply sl_alloc HM); infer_instance; clear HM; (try clear wq); intro g11 wq HM; (try simp only [Act.put, List.setIfInBounds_toArray, List.set_cons_zero, List.set_cons_succ])) | ((with_reducible refine gate_dst (N := 56) rfl ?_); (with_reducible apply sl_lit HM); (focus (go_simp; (try rfl); done)); clear HM; (try clear wq); intro g56 wq HM; (try simp only [Act.put, List.setIfInBounds_toArray, List.set_cons_zero, List.set_cons_succ])) | ((with_reducible refine gate_dst (N := 59) rfl ?_); (with_reducible apply sl_append_lit HM); (first | exact Ev.tmp rfl | exact Ev.const); infer_instance; (first | exact Ev.tmp rfl | exact Ev.const); infer_instance; infer_instance; exact rfl; infer_instance; (first | omega | (simp only [List.length_append, List.length_cons, List.length_nil] at *; omega)); clear HM; (try clear wq); intro v59 wq HM; (try simp only [Act.put, List.setIfInBounds_toArray, List.set_cons_zero, List.set_cons_succ]); haveI := HM.rowOne v59) | ((with_reducible refine gate_dst (N := 66) rfl ?_); (with_reducible apply sl_lit HM); (focus (go_simp; (try rfl); done)); clear HM; (try clear wq); intro g66 wq HM; (try simp only [Act.put, List.setIfInBounds_toArray, List.set_cons_zero, List.set_cons_succ])) | ((with_reducible refine gate_dst (N := 67) rfl ?_); (with_reducible apply sl_append_lit HM); (first | exact Ev.tmp rfl | exact Ev.const); infer_instance; (first | exact Ev.tmp rfl | exact Ev.const); infer_instance; infer_instance; exact rfl; infer_instance; (first | omega | (simp only [List.length_append, List.length_cons, List.length_nil] at *; omega)); clear HM; (try clear wq); intro v67 wq HM; (try simp only [Act.put, List.setIfInBounds_toArray, List.set_cons_zero, List.set_cons_succ]); haveI := HM.rowOne v67) | ((with_reducible refine gate_dst (N := 71) rfl ?_); (with_reducible apply sl_lit HM); (focus (go_simp; (try rfl); done)); clear HM; (try clear wq); intro g71 wq HM; (try simp only [Act.put, List.setIfInBounds_toArray, List.set_cons_zero, List.set_cons_succ])) | ((with_reducible refine gate_dst (N := 72) rfl ?_); (with_reducible apply sl_append_lit HM); (first | exact Ev.tmp rfl | exact Ev.const); infer_instance; (first | exact Ev.tmp rfl | exact Ev.const); infer_instance; infer_instance; exact rfl; infer_instance; (first | omega | (simp only [List.length_append, List.length_cons, List.length_nil] at *; omega)); clear HM; (try clear wq); intro v72 wq HM; (try simp only [Act.put, List.setIfInBounds_toArray, List.set_cons_zero, List.set_cons_succ]); haveI := HM.rowOne v72))
  exact sl_ret rfl (by simp) (vals_cell HM rfl inferInstance inferInstance rfl (vals_tmp rfl .nil)) ⟨R, by rw [E.out], by rw [E.out], HOK.out.qc, HM.sub⟩
set_option maxHeartbeats 8000000 in
set_option maxRecDepth 100000 in
theorem rTake_gap (R : RV) (as0 an af now : Int) (ho : R.Ok) (hs : as0 = R.s) (B : Nat) (w0 w : World) (H : List As) (HM : SL.Mod B w0 (frz R.items :: H) w) :
    Calls Try.prog 87 #[.agg R.cells.toArray, .agg (ansC as0 an true af).toArray, .int .i64 now] w (RTakePost R as0 an af now true B w0 H) := by
  have HOK := Aside0.mk ho
  have E : Aside0 (R.p.take as0 an true af now = ({ R.p with rg := R.p.rg.map (pLate an now) }, true)) := ⟨by unfold RP.take; rw [if_pos (show as0 = R.p.s from hs), if_pos rfl]⟩
  have e0 : (as0 != R.s) = false := by simpa using hs
  have hrl := ho.rg
  clear hs ho
  unfold RTakePost
  go_enter Try.func87, Try.ntmps87
  go_wp2_with (first | go_step3 | ((with_reducible apply sl_want); exact rfl) | ((with_reducible apply sl_load HM); exact rfl; infer_instance; infer_instance; (try simp only [Act.put, List.setIfInBounds_toArray, List.set_cons_zero, List.set_cons_succ])) | ((with_reducible apply sl_store HM); exact rfl; (first | exact Ev.tmp rfl | exact Ev.const); infer_instance; infer_instance; infer_instance; clear HM; (try clear wq); intro wq HM; (try simp only [Act.put, List.setIfInBounds_toArray, List.set_cons_zero, List.set_cons_succ])) | ((with_reducible apply sl_loadR); exact rfl; assumption; (try simp only [Act.put, List.setIfInBounds_toArray, List.set_cons_zero, List.set_cons_succ])) | ((with_reducible apply sl_loadH HM); exact rfl; assumption; infer_instance; (try simp only [Act.put, List.setIfInBounds_toArray, List.set_cons_zero, List.set_cons_succ])) | ((with_reducible refine gate_dst (N := 3) rfl ?_); (with_reducible apply sl_box HM); (first | exact Ev.tmp rfl | exact Ev.const); exact rfl; clear HM; (try clear wq); intro g3 wq HM; (try simp only [Act.put, List.setIfInBounds_toArray, List.set_cons_zero, List.set_cons_succ])) | ((with_reducible refine gate_dst (N := 4) rfl ?_); (with_reducible apply sl_box HM); (first | exact Ev.tmp rfl | exact Ev.const); exact rfl; clear HM; (try clear wq); intro g4 wq HM; (try simp only [Act.put, List.setIfInBounds_toArray, List.set_cons_zero, List.set_cons_succ])) | ((with_reducible refine gate_dst (N := 6) rfl ?_); (with_reducible apply sl_alloc HM); infer_instance; clear HM; (try clear wq); intro g6 wq HM; (try simp only [Act.put, List.setIfInBounds_toArray, List.set_cons_zero, List.set_cons_succ])) | ((with_reducible refine gate_dst (N := 11) rfl ?_); (with_reducible apply sl_alloc HM); infer_instance; clear HM; (try clear wq); intro g11 wq HM; (try simp only [Act.put, List.setIfInBounds_toArray, List.set_cons_zero, List.set_cons_succ])) | ((with_reducible refine gate_dst (N := 56) rfl ?_); (with_reducible apply sl_lit HM); (focus (go_simp; (try rfl); done)); clear HM; (try clear wq); intro g56 wq HM; (try simp only [Act.put, List.setIfInBounds_toArray, List.set_cons_zero, List.set_cons_succ])) | ((with_reducible refine gate_dst (N := 59) rfl ?_); (with_reducible apply sl_append_lit HM); (first | exact Ev.tmp rfl | exact Ev.const); infer_instance; (first | exact Ev.tmp rfl | exact Ev.const); infer_instance; infer_instance; exact rfl; infer_instance; (first | omega | (simp only [List.length_append, List.length_cons, List.length_nil] at *; omega)); clear HM; (try clear wq); intro v59 wq HM; (try simp only [Act.put, List.setIfInBounds_toArray, List.set_cons_zero, List.set_cons_succ]); haveI := HM.rowOne v59) | ((with_reducible refine gate_dst (N := 66) rfl ?_); (with_reducible apply sl_lit HM); (focus (go_simp; (try rfl); done)); clear HM; (try clear wq); intro g66 wq HM; (try simp only [Act.put, List.setIfInBounds_toArray, List.set_cons_zero, List.set_cons_succ])) | ((with_reducible refine gate_dst (N := 67) rfl ?_); (with_reducible apply sl_append_lit HM); (first | exact Ev.tmp rfl | exact Ev.const); infer_instance; (first | exact Ev.tmp rfl | exact Ev.const); infer_instance; infer_instance; exact rfl; infer_instance; (first | omega | (simp only [List.length_append, List.length_cons, List.length_nil] at *; omega)); clear HM; (try clear wq); intro v67 wq HM; (try simp only [Act.put, List.setIfInBounds_toArray, List.set_cons_zero, List.set_cons_succ]); haveI := HM.rowOne v67) | ((with_reducible refine gate_dst (N := 71) rfl ?_); (with_reducible apply sl_lit HM); (focus (go_simp; (try rfl); done)); clear HM; (try clear wq); intro g71 wq HM; (try simp only [Act.put, List.setIfInBounds_toArray, List.set_cons_zero, List.set_cons_succ])) | ((with_reducible refine gate_dst (N := 72) rfl ?_); (with_reducible apply sl_append_lit HM); (first | exact Ev.tmp rfl | exact Ev.const); infer_instance; (first | exact Ev.tmp rfl | exact Ev.const); infer_instance; infer_instance; exact rfl; infer_instance; (first | omega | (simp only [List.length_append, List.length_cons, List.length_nil] at *; omega)); clear HM; (try clear wq); intro v72 wq HM; (try simp only [Act.put, List.setIfInBounds_toArray, List.set_cons_zero, List.set_cons_succ]); haveI := HM.rowOne v72))
  go_loopw [8, 9, 10] (fun v8 v9 v10 wr => ∃ k : Nat, v10 = .int .i64 k ∧ k ≤ R.rg.length ∧ v8 = .bool true ∧ Aside0 (SL.Mod B w0 (row v9 162 4 k (sents R.s ((R.rg.take k).map (Sn.late an now))) :: cells g3 R.cells 112 :: cells g4 (ansC as0 an true af) 38 :: cells g6 [.int .i64 0, .int .i64 0, .int .i64 0, .slice none 0 0, .slice none 0 0, .slice none 0 0] 112 :: frz R.items :: H) wr)) (fun _ _ v10 _ => R.rg.length - (intOf v10).toNat)
  case atStart =>
    refine ⟨0, rfl, by omega, rfl, ⟨?_⟩⟩
    have HM1 : SL.Mod B w0 (row (.slice none 0 0) 162 4 0 (sents R.s ((R.rg.take 0).map (Sn.late an now))) :: _) _ := HM.nilRow 162 4
    exact HM1.sub
  case round =>
    obtain ⟨k, rfl, hk, rfl, HM0⟩ := hrel
    clear HM
    have HM := HM0.out
    clear HM0
    haveI := HM.rowOne u9
    by_cases hlt : k < R.rg.length
    · obtain ⟨x, hx⟩ : ∃ x, R.rg[k]? = some x := ⟨_, List.getElem?_eq_getElem hlt⟩
      obtain ⟨ad, hA⟩ := (rv_rg (HM.pick (frz R.items))).addr (by rw [flat_len (sn_len R.s)]; omega)
      have hld : Aside0 (∀ w', SL.Mod B w0 [frz R.items] w' → Sem.run Try.prog (Instr.loadAt 162 (.pointer (some (ad.add (k * 4))))) w' = .ok (.agg (x.cells R.s).toArray) w') := ⟨fun w' h => sn_load (by rw [← hA]; exact rv_rg h) hx⟩
      have HT : Aside0 ((R.rg.take (k + 1)).map (Sn.late an now) = (R.rg.take k).map (Sn.late an now) ++ [x.late an now]) := ⟨by rw [List.take_add_one, hx, List.map_append]; rfl⟩
      obtain ⟨xn, xl, xA, xc, xd⟩ := x
      simp only [Sn.cells] at hld
      clear hx
      by_cases hc : an < xn
      · have e1 : decide (an < xn) = true := decide_eq_true hc
        have HE : Aside0 ((⟨xn, xl, xA, xc, xd⟩ : Sn).late an now = ⟨xn, xl, xA, xc, now⟩) := ⟨by unfold Sn.late; rw [if_pos hc]⟩
        clear hc
        have hA2 := hA
        clear hA
        go_wp2_with (first | go_step3 | ((with_reducible apply sl_want); exact rfl) | ((with_reducible apply sl_load HM); exact rfl; infer_instance; infer_instance; (try simp only [Act.put, List.setIfInBounds_toArray, List.set_cons_zero, List.set_cons_succ])) | ((with_reducible apply sl_store HM); exact rfl; (first | exact Ev.tmp rfl | exact Ev.const); infer_instance; infer_instance; infer_instance; clear HM; (try clear wq); intro wq HM; (try simp only [Act.put, List.setIfInBounds_toArray, List.set_cons_zero, List.set_cons_succ])) | ((with_reducible apply sl_loadR); exact rfl; assumption; (try simp only [Act.put, List.setIfInBounds_toArray, List.set_cons_zero, List.set_cons_succ])) | ((with_reducible apply sl_loadH HM); exact rfl; assumption; infer_instance; (try simp only [Act.put, List.setIfInBounds_toArray, List.set_cons_zero, List.set_cons_succ])) | ((with_reducible refine gate_dst (N := 3) rfl ?_); (with_reducible apply sl_box HM); (first | exact Ev.tmp rfl | exact Ev.const); exact rfl; clear HM; (try clear wq); intro g3 wq HM; (try simp only [Act.put, List.setIfInBounds_toArray, List.set_cons_zero, List.set_cons_succ])) | ((with_reducible refine gate_dst (N := 4) rfl ?_); (with_reducible apply sl_box HM); (first | exact Ev.tmp rfl | exact Ev.const); exact rfl; clear HM; (try clear wq); intro g4 wq HM; (try simp only [Act.put, List.setIfInBounds_toArray, List.set_cons_zero, List.set_cons_succ])) | ((with_reducible refine gate_dst (N := 6) rfl ?_); (with_reducible apply sl_alloc HM); infer_instance; clear HM; (try clear wq); intro g6 wq HM; (try simp only [Act.put, List.setIfInBounds_toArray, List.set_cons_zero, List.set_cons_succ])) | ((with_reducible refine gate_dst (N := 11) rfl ?_); (with_reducible apply sl_alloc HM); infer_instance; clear HM; (try clear wq); intro g11 wq HM; (try simp only [Act.put, List.setIfInBounds_toArray, List.set_cons_zero, List.set_cons_succ])) | ((with_reducible refine gate_dst (N := 56) rfl ?_); (with_reducible apply sl_lit HM); (focus (go_simp; (try rfl); done)); clear HM; (try clear wq); intro g56 wq HM; (try simp only [Act.put, List.setIfInBounds_toArray, List.set_cons_zero, List.set_cons_succ])) | ((with_reducible refine gate_dst (N := 59) rfl ?_); (with_reducible apply sl_append_lit HM); (first | exact Ev.tmp rfl | exact Ev.const); infer_instance; (first | exact Ev.tmp rfl | exact Ev.const); infer_instance; infer_instance; exact rfl; infer_instance; (first | omega | (simp only [List.length_append, List.length_cons, List.length_nil] at *; omega)); clear HM; (try clear wq); intro v59 wq HM; (try simp only [Act.put, List.setIfInBounds_toArray, List.set_cons_zero, List.set_cons_succ]); haveI := HM.rowOne v59) | ((with_reducible refine gate_dst (N := 66) rfl ?_); (with_reducible apply sl_lit HM); (focus (go_simp; (try rfl); done)); clear HM; (try clear wq); intro g66 wq HM; (try simp only [Act.put, List.setIfInBounds_toArray, List.set_cons_zero, List.set_cons_succ])) | ((with_reducible refine gate_dst (N := 67) rfl ?_); (with_reducible apply sl_append_lit HM); (first | exact Ev.tmp rfl | exact Ev.const); infer_instance; (first | exact Ev.tmp rfl | exact Ev.const); infer_instance; infer_instance; exact rfl; infer_instance; (first | omega | (simp only [List.length_append, List.length_cons, List.length_nil] at *; omega)); clear HM; (try clear wq); intro v67 wq HM; (try simp only [Act.put, List.setIfInBounds_toArray, List.set_cons_zero, List.set_cons_succ]); haveI := HM.rowOne v67) | ((with_reducible refine gate_dst (N := 71) rfl ?_); (with_reducible apply sl_lit HM); (focus (go_simp; (try rfl); done)); clear HM; (try clear wq); intro g71 wq HM; (try simp only [Act.put, List.setIfInBounds_toArray, List.set_cons_zero, List.set_cons_succ])) | ((with_reducible refine gate_dst (N := 72) rfl ?_); (with_reducible apply sl_append_lit HM); (first | exact Ev.tmp rfl | exact Ev.const); infer_instance; (first | exact Ev.tmp rfl | exact Ev.const); infer_instance; infer_instance; exact rfl; infer_instance; (first | omega | (simp only [List.length_append, List.length_cons, List.length_nil] at *; omega)); clear HM; (try clear wq); intro v72 wq HM; (try simp only [Act.put, List.setIfInBounds_toArray, List.set_cons_zero, List.set_cons_succ]); haveI := HM.rowOne v72))
        have e2 := sents_app R.s ((R.rg.take k).map (Sn.late an now)) ⟨xn, xl, xA, xc, now⟩
        dsimp only at e2
        rw [e2, ← HE.out, ← HT.out] at HM
        exact ⟨⟨k + 1, rfl, hlt, rfl, ⟨HM.sub⟩⟩, by simp only [intOf]; omega⟩
      · have e1 : decide (an < xn) = false := decide_eq_false hc
        have HE : Aside0 ((⟨xn, xl, xA, xc, xd⟩ : Sn).late an now = ⟨xn, xl, xA, xc, xd⟩) := ⟨by unfold Sn.late; rw [if_neg hc]⟩
        clear hc
        go_wp2_with (first | go_step3 | ((with_reducible apply sl_want); exact rfl) | ((with_reducible apply sl_load HM); exact rfl; infer_instance; infer_instance; (try simp only [Act.put, List.setIfInBounds_toArray, List.set_cons_zero, List.set_cons_succ])) | ((with_reducible apply sl_store HM); exact rfl; (first | exact Ev.tmp rfl | exact Ev.const); infer_instance; infer_instance; infer_instance; clear HM; (try clear wq); intro wq HM; (try simp only [Act.put, List.setIfInBounds_toArray, List.set_cons_zero, List.set_cons_succ])) | ((with_reducible apply sl_loadR); exact rfl; assumption; (try simp only [Act.put, List.setIfInBounds_toArray, List.set_cons_zero, List.set_cons_succ])) | ((with_reducible apply sl_loadH HM); exact rfl; assumption; infer_instance; (try simp only [Act.put, List.setIfInBounds_toArray, List.set_cons_zero, List.set_cons_succ])) | ((with_reducible refine gate_dst (N := 3) rfl ?_); (with_reducible apply sl_box HM); (first | exact Ev.tmp rfl | exact Ev.const); exact rfl; clear HM; (try clear wq); intro g3 wq HM; (try simp only [Act.put, List.setIfInBounds_toArray, List.set_cons_zero, List.set_cons_succ])) | ((with_reducible refine gate_dst (N := 4) rfl ?_); (with_reducible apply sl_box HM); (first | exact Ev.tmp rfl | exact Ev.const); exact rfl; clear HM; (try clear wq); intro g4 wq HM; (try simp only [Act.put, List.setIfInBounds_toArray, List.set_cons_zero, List.set_cons_succ])) | ((with_reducible refine gate_dst (N := 6) rfl ?_); (with_reducible apply sl_alloc HM); infer_instance; clear HM; (try clear wq); intro g6 wq HM; (try simp only [Act.put, List.setIfInBounds_toArray, List.set_cons_zero, List.set_cons_succ])) | ((with_reducible refine gate_dst (N := 11) rfl ?_); (with_reducible apply sl_alloc HM); infer_instance; clear HM; (try clear wq); intro g11 wq HM; (try simp only [Act.put, List.setIfInBounds_toArray, List.set_cons_zero, List.set_cons_succ])) | ((with_reducible refine gate_dst (N := 56) rfl ?_); (with_reducible apply sl_lit HM); (focus (go_simp; (try rfl); done)); clear HM; (try clear wq); intro g56 wq HM; (try simp only [Act.put, List.setIfInBounds_toArray, List.set_cons_zero, List.set_cons_succ])) | ((with_reducible refine gate_dst (N := 59) rfl ?_); (with_reducible apply sl_append_lit HM); (first | exact Ev.tmp rfl | exact Ev.const); infer_instance; (first | exact Ev.tmp rfl | exact Ev.const); infer_instance; infer_instance; exact rfl; infer_instance; (first | omega | (simp only [List.length_append, List.length_cons, List.length_nil] at *; omega)); clear HM; (try clear wq); intro v59 wq HM; (try simp only [Act.put, List.setIfInBounds_toArray, List.set_cons_zero, List.set_cons_succ]); haveI := HM.rowOne v59) | ((with_reducible refine gate_dst (N := 66) rfl ?_); (with_reducible apply sl_lit HM); (focus (go_simp; (try rfl); done)); clear HM; (try clear wq); intro g66 wq HM; (try simp only [Act.put, List.setIfInBounds_toArray, List.set_cons_zero, List.set_cons_succ])) | ((with_reducible refine gate_dst (N := 67) rfl ?_); (with_reducible apply sl_append_lit HM); (first | exact Ev.tmp rfl | exact Ev.const); infer_instance; (first | exact Ev.tmp rfl | exact Ev.const); infer_instance; infer_instance; exact rfl; infer_instance; (first | omega | (simp only [List.length_append, List.length_cons, List.length_nil] at *; omega)); clear HM; (try clear wq); intro v67 wq HM; (try simp only [Act.put, List.setIfInBounds_toArray, List.set_cons_zero, List.set_cons_succ]); haveI := HM.rowOne v67) | ((with_reducible refine gate_dst (N := 71) rfl ?_); (with_reducible apply sl_lit HM); (focus (go_simp; (try rfl); done)); clear HM; (try clear wq); intro g71 wq HM; (try simp only [Act.put, List.setIfInBounds_toArray, List.set_cons_zero, List.set_cons_succ])) | ((with_reducible refine gate_dst (N := 72) rfl ?_); (with_reducible apply sl_append_lit HM); (first | exact Ev.tmp rfl | exact Ev.const); infer_instance; (first | exact Ev.tmp rfl | exact Ev.const); infer_instance; infer_instance; exact rfl; infer_instance; (first | omega | (simp only [List.length_append, List.length_cons, List.length_nil] at *; omega)); clear HM; (try clear wq); intro v72 wq HM; (try simp only [Act.put, List.setIfInBounds_toArray, List.set_cons_zero, List.set_cons_succ]); haveI := HM.rowOne v72))
        have e2 := sents_app R.s ((R.rg.take k).map (Sn.late an now)) ⟨xn, xl, xA, xc, xd⟩
        dsimp only at e2
        rw [e2, ← HE.out, ← HT.out] at HM
        exact ⟨⟨k + 1, rfl, hlt, rfl, ⟨HM.sub⟩⟩, by simp only [intOf]; omega⟩
    · have hkn : k = R.rg.length := by omega
      subst hkn
      obtain ⟨A9, c9, rfl, _⟩ := row_slice (HM.rowOwn u9)
      go_wp2_with (first | go_step3 | ((with_reducible apply sl_want); exact rfl) | ((with_reducible apply sl_load HM); exact rfl; infer_instance; infer_instance; (try simp only [Act.put, List.setIfInBounds_toArray, List.set_cons_zero, List.set_cons_succ])) | ((with_reducible apply sl_store HM); exact rfl; (first | exact Ev.tmp rfl | exact Ev.const); infer_instance; infer_instance; infer_instance; clear HM; (try clear wq); intro wq HM; (try simp only [Act.put, List.setIfInBounds_toArray, List.set_cons_zero, List.set_cons_succ])) | ((with_reducible apply sl_loadR); exact rfl; assumption; (try simp only [Act.put, List.setIfInBounds_toArray, List.set_cons_zero, List.set_cons_succ])) | ((with_reducible apply sl_loadH HM); exact rfl; assumption; infer_instance; (try simp only [Act.put, List.setIfInBounds_toArray, List.set_cons_zero, List.set_cons_succ])) | ((with_reducible refine gate_dst (N := 3) rfl ?_); (with_reducible apply sl_box HM); (first | exact Ev.tmp rfl | exact Ev.const); exact rfl; clear HM; (try clear wq); intro g3 wq HM; (try simp only [Act.put, List.setIfInBounds_toArray, List.set_cons_zero, List.set_cons_succ])) | ((with_reducible refine gate_dst (N := 4) rfl ?_); (with_reducible apply sl_box HM); (first | exact Ev.tmp rfl | exact Ev.const); exact rfl; clear HM; (try clear wq); intro g4 wq HM; (try simp only [Act.put, List.setIfInBounds_toArray, List.set_cons_zero, List.set_cons_succ])) | ((with_reducible refine gate_dst (N := 6) rfl ?_); (with_reducible apply sl_alloc HM); infer_instance; clear HM; (try clear wq); intro g6 wq HM; (try simp only [Act.put, List.setIfInBounds_toArray, List.set_cons_zero, List.set_cons_succ])) | ((with_reducible refine gate_dst (N := 11) rfl ?_); (with_reducible apply sl_alloc HM); infer_instance; clear HM; (try clear wq); intro g11 wq HM; (try simp only [Act.put, List.setIfInBounds_toArray, List.set_cons_zero, List.set_cons_succ])) | ((with_reducible refine gate_dst (N := 56) rfl ?_); (with_reducible apply sl_lit HM); (focus (go_simp; (try rfl); done)); clear HM; (try clear wq); intro g56 wq HM; (try simp only [Act.put, List.setIfInBounds_toArray, List.set_cons_zero, List.set_cons_succ])) | ((with_reducible refine gate_dst (N := 59) rfl ?_); (with_reducible apply sl_append_lit HM); (first | exact Ev.tmp rfl | exact Ev.const); infer_instance; (first | exact Ev.tmp rfl | exact Ev.const); infer_instance; infer_instance; exact rfl; infer_instance; (first | omega | (simp only [List.length_append, List.length_cons, List.length_nil] at *; omega)); clear HM; (try clear wq); intro v59 wq HM; (try simp only [Act.put, List.setIfInBounds_toArray, List.set_cons_zero, List.set_cons_succ]); haveI := HM.rowOne v59) | ((with_reducible refine gate_dst (N := 66) rfl ?_); (with_reducible apply sl_lit HM); (focus (go_simp; (try rfl); done)); clear HM; (try clear wq); intro g66 wq HM; (try simp only [Act.put, List.setIfInBounds_toArray, List.set_cons_zero, List.set_cons_succ])) | ((with_reducible refine gate_dst (N := 67) rfl ?_); (with_reducible apply sl_append_lit HM); (first | exact Ev.tmp rfl | exact Ev.const); infer_instance; (first | exact Ev.tmp rfl | exact Ev.const); infer_instance; infer_instance; exact rfl; infer_instance; (first | omega | (simp only [List.length_append, List.length_cons, List.length_nil] at *; omega)); clear HM; (try clear wq); intro v67 wq HM; (try simp only [Act.put, List.setIfInBounds_toArray, List.set_cons_zero, List.set_cons_succ]); haveI := HM.rowOne v67) | ((with_reducible refine gate_dst (N := 71) rfl ?_); (with_reducible apply sl_lit HM); (focus (go_simp; (try rfl); done)); clear HM; (try clear wq); intro g71 wq HM; (try simp only [Act.put, List.setIfInBounds_toArray, List.set_cons_zero, List.set_cons_succ])) | ((with_reducible refine gate_dst (N := 72) rfl ?_); (with_reducible apply sl_append_lit HM); (first | exact Ev.tmp rfl | exact Ev.const); infer_instance; (first | exact Ev.tmp rfl | exact Ev.const); infer_instance; infer_instance; exact rfl; infer_instance; (first | omega | (simp only [List.length_append, List.length_cons, List.length_nil] at *; omega)); clear HM; (try clear wq); intro v72 wq HM; (try simp only [Act.put, List.setIfInBounds_toArray, List.set_cons_zero, List.set_cons_succ]); haveI := HM.rowOne v72))
      rw [List.take_length] at HM
      have HM1 : SL.Mod B w0 (row (.slice A9 R.rg.length c9) 162 4 R.rg.length (sents R.s (R.rg.map (Sn.late an now))) :: frz R.items :: H) _ := HM.sub
      have e2 : R.rg.length = (R.rg.map (Sn.late an now)).length := by rw [List.length_map]
      rw [e2] at HM1
      have HM2 := Mod.rvR HM1 (by rw [itR_map (late_A an now) (late_l an now)]; exact fun p hp => hp)
      refine sl_ret rfl (by simp) (vals_cell HM rfl inferInstance inferInstance rfl (vals_tmp rfl .nil)) ⟨{ R with rg := R.rg.map (Sn.late an now), AR := A9, cR := c9 }, ?_, ?_, HOK.out.qc, HM2⟩
      · rw [E.out]
        simp only [RV.cells, List.length_map]
      · rw [E.out]
        unfold RV.p
        simp only [List.map_map, RP.mk.injEq, true_and, and_true]
        apply List.map_congr_left
        intro x _
        exact late_v an now x
/-- What is left of the ring, and what was answered, behind k batches. -/
def leftK (an : Int) (l : List Sn) (k : Nat) : List Sn := (l.take k).filter (fun x => !decide (x.n = an))
def Sn.td (af : Int) (x : Sn) : Td := ⟨x.n, x.l, x.A, x.c, af⟩
def doneK (an af : Int) (l : List Sn) (k : Nat) : List Td := ((l.take k).filter (fun x => decide (x.n = an))).map (Sn.td af)
def anyK (an : Int) (l : List Sn) (k : Nat) : Bool := (l.take k).any (fun x => decide (x.n = an))
theorem k_yes {an af : Int} {l : List Sn} {k : Nat} {x : Sn} (hx : l[k]? = some x) (h : x.n = an) : leftK an l (k + 1) = leftK an l k ∧ doneK an af l (k + 1) = doneK an af l k ++ [x.td af] ∧ anyK an l (k + 1) = true := by
  unfold leftK doneK anyK
  rw [List.take_add_one, hx]
  simp [h]
theorem k_no {an af : Int} {l : List Sn} {k : Nat} {x : Sn} (hx : l[k]? = some x) (h : x.n ≠ an) : leftK an l (k + 1) = leftK an l k ++ [x] ∧ doneK an af l (k + 1) = doneK an af l k ∧ anyK an l (k + 1) = anyK an l k := by
  unfold leftK doneK anyK
  rw [List.take_add_one, hx]
  simp [h]
theorem left_le (an : Int) (l : List Sn) (k : Nat) : (leftK an l k).length ≤ k := by
  unfold leftK
  refine Nat.le_trans (List.length_filter_le _ _) ?_
  rw [List.length_take]
  omega
theorem done_le (an af : Int) (l : List Sn) (k : Nat) : (doneK an af l k).length ≤ k := by
  unfold doneK
  rw [List.length_map]
  refine Nat.le_trans (List.length_filter_le _ _) ?_
  rw [List.length_take]
  omega
theorem it_parts {an af : Int} {l : List Sn} : (∀ p ∈ itR (leftK an l l.length), p ∈ itR l) ∧ (∀ p ∈ itT (doneK an af l l.length), p ∈ itR l) := by
  unfold leftK doneK itR itT
  rw [List.take_length]
  constructor
  · intro p hp
    obtain ⟨x, hx, rfl⟩ := List.mem_map.1 hp
    exact List.mem_map.2 ⟨x, (List.mem_filter.1 hx).1, rfl⟩
  · intro p hp
    rw [List.map_map] at hp
    obtain ⟨x, hx, rfl⟩ := List.mem_map.1 hp
    exact List.mem_map.2 ⟨x, (List.mem_filter.1 hx).1, rfl⟩
theorem k_p {an af : Int} (l : List Sn) : (leftK an l l.length).map Sn.v = (l.map Sn.v).filter (fun x => !decide (x.1 = an)) ∧ (doneK an af l l.length).map Td.v = ((l.map Sn.v).filter (fun x => decide (x.1 = an))).map (fun x => (x.1, x.2.1, af)) ∧ anyK an l l.length = (l.map Sn.v).any (fun x => decide (x.1 = an)) := by
  unfold leftK doneK anyK
  rw [List.take_length]
  refine ⟨?_, ?_, ?_⟩
  · rw [List.filter_map]; rfl
  · rw [List.filter_map, List.map_map, List.map_map]; rfl
  · rw [List.any_map]; rfl
/-- The ring and what was answered, anew. -/
theorem Mod.rvT {B : Nat} {w0 w : World} {H : List As} {R : RV} {A AT : Option Addr} {c cT n : Nat} {rg : List Sn} {td : List Td} (h : SL.Mod B w0 (row (.slice A n c) 162 4 n (sents R.s rg) :: frz ((AT, tds R.s td) :: R.items) :: H) w) (hs : ∀ p ∈ itR rg, p ∈ itR R.rg) (ht : ∀ p ∈ itT td, p ∈ itR R.rg ∨ p ∈ itT R.td) : SL.Mod B w0 (frz ({ R with rg := rg, AR := A, cR := c, td := td, AT := AT, cT := cT } : RV).items :: H) w :=
  (Mod.frzRow h).frzSub (fun p hp => by
    simp only [RV.items, List.mem_cons, List.mem_append] at hp ⊢
    rcases hp with h | h | h | h | h
    · exact .inr (.inr (.inl h))
    · exact .inl h
    · exact .inr (.inl h)
    · exact .inr (.inr (.inr (.inr (.inr (.inl (hs p h))))))
    · exact .inr (.inr (.inr (.inr (.inr (ht p h))))))
end Go.Proofs.Ytghfoooldcbdnaa
