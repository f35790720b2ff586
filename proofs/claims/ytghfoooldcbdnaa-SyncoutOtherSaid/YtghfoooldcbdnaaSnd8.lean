/-
  THE SENDER OF PACKAGE syncout: Send; what it hands out, and what is sent again.
-/
import Derived.Test.YtghfoooldcbdnaaSnd7
set_option linter.unusedVariables false
set_option linter.unusedSimpArgs false
namespace Go.Proofs.Ytghfoooldcbdnaa
open Go.RowKit Go.Proofs.Ytghfoooldcbdnaa.SL Go.Proofs.YtghfoooldcbdnaaW.PrintWords

/-- A batch that is handed out. -/
structure Bt where
  n : Int
  l : List Rec
  A : Option Addr
  c : Nat
abbrev Bt.cells (s : Int) (b : Bt) : List Value := [.int .i64 s, .int .i64 b.n, .slice b.A b.l.length b.c]
abbrev bts (s : Int) (l : List Bt) : List Value := l.flatMap (Bt.cells s)
theorem bt_len (s : Int) (b : Bt) : (b.cells s).length = 3 := rfl
def Bt.own (b : Bt) : As := row (.slice b.A b.l.length b.c) 53 8 b.l.length (recs b.l)
def Bt.v (b : Bt) : Int × List Rec := (b.n, b.l)
/-- Due again. -/
def Sn.again (now ev : Int) (x : Sn) : Sn := if x.due ≤ now then { x with due := now + ev } else x
def mapK (f : Sn → Sn) (rg : List Sn) (k : Nat) : List Sn := (rg.take k).map f ++ rg.drop k
theorem again_own (now ev : Int) (x : Sn) : (x.again now ev).own = x.own := by
  unfold Sn.again
  split <;> rfl
theorem mapK_own {f : Sn → Sn} (hf : ∀ x, (f x).own = x.own) (rg : List Sn) (k : Nat) : (mapK f rg k).map Sn.own = rg.map Sn.own := by
  unfold mapK
  rw [List.map_append, List.map_map, show Sn.own ∘ f = Sn.own from funext hf, ← List.map_append, List.take_append_drop]
theorem mapK_len (f : Sn → Sn) (rg : List Sn) (k : Nat) : (mapK f rg k).length = rg.length := by
  unfold mapK
  rw [List.length_append, List.length_map, ← List.length_append, List.take_append_drop]
theorem mapK_zero (f : Sn → Sn) (rg : List Sn) : mapK f rg 0 = rg := by simp [mapK]
theorem mapK_all (f : Sn → Sn) (rg : List Sn) : mapK f rg rg.length = rg.map f := by simp [mapK]
theorem mapK_at {f : Sn → Sn} {rg : List Sn} {k : Nat} {x : Sn} (h : rg[k]? = some x) : (mapK f rg k)[k]? = some x := by
  unfold mapK
  have hk : k < rg.length := (List.getElem?_eq_some_iff.1 h).1
  rw [List.getElem?_append_right (by simp; omega), List.getElem?_drop]
  simp only [List.length_map, List.length_take]
  rw [show k + (k - min k rg.length) = k by omega, h]
theorem mapK_succ {f : Sn → Sn} {rg : List Sn} {k : Nat} {x : Sn} (h : rg[k]? = some x) : mapK f rg (k + 1) = (mapK f rg k).set k (f x) := by
  have hk : k < rg.length := (List.getElem?_eq_some_iff.1 h).1
  have hx : rg[k] = x := by
    rw [List.getElem?_eq_getElem hk] at h
    injection h
  unfold mapK
  rw [List.take_add_one, h, List.map_append, List.set_append_right _ _ (by simp; omega)]
  rw [List.drop_eq_getElem_cons hk]
  simp only [List.length_map, List.length_take]
  rw [show k - min k rg.length = 0 by omega, List.set_cons_zero]
  simp
/-- What is sent again. -/
def outK (now : Int) (rg : List Sn) (k : Nat) : List (Int × List Rec) := ((rg.take k).filter (fun x => decide (x.due ≤ now))).map (fun x => (x.n, x.l))
theorem outK_succ {now : Int} {rg : List Sn} {k : Nat} {x : Sn} (h : rg[k]? = some x) : outK now rg (k + 1) = outK now rg k ++ (if x.due ≤ now then [(x.n, x.l)] else []) := by
  unfold outK
  rw [List.take_add_one, h, List.filter_append, List.map_append]
  congr 1
  by_cases hd : x.due ≤ now
  · simp [hd]
  · simp [hd]
theorem seg_three {cs xs : List Value} {m i : Nat} {a b c : Value} (h : cs.take m = xs) (h0 : xs[i]? = some a) (h1 : xs[i + 1]? = some b) (h2 : xs[i + 2]? = some c) : SegAt cs i 3 [a, b, c] := by
  have e0 := (seg_take h h0).eq
  have e1 := (seg_take h h1).eq
  have e2 := (seg_take h h2).eq
  refine ⟨⟨?_, by omega⟩⟩
  obtain ⟨a1, a2⟩ := e0
  obtain ⟨b1, b2⟩ := e1
  obtain ⟨c1, c2⟩ := e2
  rw [List.drop_eq_getElem_cons (by omega)] at a1 b1 c1
  simp only [List.take_succ_cons, List.take_zero, List.cons.injEq, and_true] at a1 b1 c1
  rw [List.drop_eq_getElem_cons (by omega), List.drop_eq_getElem_cons (i := i + 1) (by omega), List.drop_eq_getElem_cons (i := i + 1 + 1) (by omega)]
  simp only [List.take_succ_cons, List.take_zero]
  rw [a1, b1]
  simp only [List.cons.injEq, true_and, and_true]
  exact c1
theorem seg_put {cs vs cs' s : List Value} {off i m : Nat} (h : SegAt cs i m s) (hp : PutAt cs off vs cs') (hle : i + m ≤ off) : SegAt cs' i m s := by
  obtain ⟨h1, h2⟩ := h.eq
  obtain ⟨p1, p2⟩ := hp.eq
  have hl : cs'.length = cs.length := by rw [← p1]; exact mid_len _ _ _ p2
  refine ⟨⟨?_, by omega⟩⟩
  have e : cs'.take (i + m) = cs.take (i + m) := by
    rw [← p1, List.append_assoc, List.take_append_of_le_length (by rw [List.length_take]; omega), List.take_take, Nat.min_eq_left hle]
  have d : ∀ l : List Value, (l.drop i).take m = (l.take (i + m)).drop i := fun l => by rw [List.drop_take, Nat.add_sub_cancel_left]
  rw [d, e, ← d, h1]
theorem bts_snoc (s : Int) (bl : List Bt) (b : Bt) : bts s bl ++ [.int .i64 s, .int .i64 b.n, .slice b.A b.l.length b.c] = bts s (bl ++ [b]) := by simp [bts, List.flatMap_append]
set_option maxHeartbeats 4000000 in
set_option maxRecDepth 100000 in
theorem Send_no (g : Nat) (S : SS) (now : Int) (hn : now < 0 ∨ 1099511627776 < now) (B : Nat) (w0 w : World) (H : List As) (HM : SL.Mod B w0 (snd g S :: H) w) :
    Calls Try.prog 34 #[.pointer (some ⟨g, 0, none⟩), .int .i64 now] w fun e w' => e = .returned (.slice none 0 0) ∧ SL.Mod B w0 (snd g S :: H) w' := by
  by_cases h0 : now < 0
  · have b0 : decide (now < 0) = true := decide_eq_true h0
    clear hn h0
    go_enter Try.func34, Try.ntmps34
    go_wp2_with (first | go_step3 | ((with_reducible apply sl_want); exact rfl) | ((with_reducible apply sl_load HM); exact rfl; infer_instance; infer_instance; (try simp only [Act.put, List.setIfInBounds_toArray, List.set_cons_zero, List.set_cons_succ])) | ((with_reducible apply sl_store HM); exact rfl; (first | exact Ev.tmp rfl | exact Ev.const); infer_instance; infer_instance; infer_instance; clear HM; (try clear wq); intro wq HM; (try simp only [Act.put, List.setIfInBounds_toArray, List.set_cons_zero, List.set_cons_succ])) | ((with_reducible apply sl_loadR); exact rfl; assumption; (try simp only [Act.put, List.setIfInBounds_toArray, List.set_cons_zero, List.set_cons_succ])) | ((with_reducible apply sl_loadH HM); exact rfl; assumption; infer_instance; (try simp only [Act.put, List.setIfInBounds_toArray, List.set_cons_zero, List.set_cons_succ])) | ((with_reducible refine gate_dst (N := 58) rfl ?_); (with_reducible apply sl_lit HM); (focus (go_simp; (try rfl); done)); clear HM; (try clear wq); intro g58 wq HM; (try simp only [Act.put, List.setIfInBounds_toArray, List.set_cons_zero, List.set_cons_succ])) | ((with_reducible refine gate_dst (N := 59) rfl ?_); (with_reducible apply sl_append_lit HM); (first | exact Ev.tmp rfl | exact Ev.const); infer_instance; (first | exact Ev.tmp rfl | exact Ev.const); infer_instance; infer_instance; exact rfl; infer_instance; (first | omega | (simp only [List.length_append, List.length_cons, List.length_nil] at *; omega)); clear HM; (try clear wq); intro v59 wq HM; (try simp only [Act.put, List.setIfInBounds_toArray, List.set_cons_zero, List.set_cons_succ]); haveI := HM.rowOne v59) | ((with_reducible refine gate_dst (N := 8) rfl ?_); (with_reducible apply sl_alloc HM); infer_instance; clear HM; (try clear wq); intro g8 wq HM; (try simp only [Act.put, List.setIfInBounds_toArray, List.set_cons_zero, List.set_cons_succ])) | ((with_reducible refine gate_dst (N := 10) rfl ?_); (with_reducible apply sl_alloc HM); infer_instance; clear HM; (try clear wq); intro g10 wq HM; (try simp only [Act.put, List.setIfInBounds_toArray, List.set_cons_zero, List.set_cons_succ])) | ((with_reducible refine gate_dst (N := 140) rfl ?_); (with_reducible apply sl_lit HM); (focus (go_simp; (try rfl); done)); clear HM; (try clear wq); intro g140 wq HM; (try simp only [Act.put, List.setIfInBounds_toArray, List.set_cons_zero, List.set_cons_succ])) | ((with_reducible refine gate_dst (N := 141) rfl ?_); (with_reducible apply sl_append_lit HM); (first | exact Ev.tmp rfl | exact Ev.const); infer_instance; (first | exact Ev.tmp rfl | exact Ev.const); infer_instance; infer_instance; exact rfl; infer_instance; (first | omega | (simp only [List.length_append, List.length_cons, List.length_nil] at *; omega)); clear HM; (try clear wq); intro v141 wq HM; (try simp only [Act.put, List.setIfInBounds_toArray, List.set_cons_zero, List.set_cons_succ]); haveI := HM.rowOne v141) | ((with_reducible refine gate_dst (N := 147) rfl ?_); (with_reducible apply sl_lit HM); (focus (go_simp; (try rfl); done)); clear HM; (try clear wq); intro g147 wq HM; (try simp only [Act.put, List.setIfInBounds_toArray, List.set_cons_zero, List.set_cons_succ])) | ((with_reducible refine gate_dst (N := 148) rfl ?_); (with_reducible apply sl_append_lit HM); (first | exact Ev.tmp rfl | exact Ev.const); infer_instance; (first | exact Ev.tmp rfl | exact Ev.const); infer_instance; infer_instance; exact rfl; infer_instance; (first | omega | (simp only [List.length_append, List.length_cons, List.length_nil] at *; omega)); clear HM; (try clear wq); intro v148 wq HM; (try simp only [Act.put, List.setIfInBounds_toArray, List.set_cons_zero, List.set_cons_succ]); haveI := HM.rowOne v148))
    exact sl_ret1 rfl (vals_tmp rfl .nil) ⟨rfl, HM⟩
  · have b0 : decide (now < 0) = false := decide_eq_false h0
    have b1 : decide (1099511627776 < now) = true := decide_eq_true (by omega)
    clear hn h0
    go_enter Try.func34, Try.ntmps34
    go_wp2_with (first | go_step3 | ((with_reducible apply sl_want); exact rfl) | ((with_reducible apply sl_load HM); exact rfl; infer_instance; infer_instance; (try simp only [Act.put, List.setIfInBounds_toArray, List.set_cons_zero, List.set_cons_succ])) | ((with_reducible apply sl_store HM); exact rfl; (first | exact Ev.tmp rfl | exact Ev.const); infer_instance; infer_instance; infer_instance; clear HM; (try clear wq); intro wq HM; (try simp only [Act.put, List.setIfInBounds_toArray, List.set_cons_zero, List.set_cons_succ])) | ((with_reducible apply sl_loadR); exact rfl; assumption; (try simp only [Act.put, List.setIfInBounds_toArray, List.set_cons_zero, List.set_cons_succ])) | ((with_reducible apply sl_loadH HM); exact rfl; assumption; infer_instance; (try simp only [Act.put, List.setIfInBounds_toArray, List.set_cons_zero, List.set_cons_succ])) | ((with_reducible refine gate_dst (N := 58) rfl ?_); (with_reducible apply sl_lit HM); (focus (go_simp; (try rfl); done)); clear HM; (try clear wq); intro g58 wq HM; (try simp only [Act.put, List.setIfInBounds_toArray, List.set_cons_zero, List.set_cons_succ])) | ((with_reducible refine gate_dst (N := 59) rfl ?_); (with_reducible apply sl_append_lit HM); (first | exact Ev.tmp rfl | exact Ev.const); infer_instance; (first | exact Ev.tmp rfl | exact Ev.const); infer_instance; infer_instance; exact rfl; infer_instance; (first | omega | (simp only [List.length_append, List.length_cons, List.length_nil] at *; omega)); clear HM; (try clear wq); intro v59 wq HM; (try simp only [Act.put, List.setIfInBounds_toArray, List.set_cons_zero, List.set_cons_succ]); haveI := HM.rowOne v59) | ((with_reducible refine gate_dst (N := 8) rfl ?_); (with_reducible apply sl_alloc HM); infer_instance; clear HM; (try clear wq); intro g8 wq HM; (try simp only [Act.put, List.setIfInBounds_toArray, List.set_cons_zero, List.set_cons_succ])) | ((with_reducible refine gate_dst (N := 10) rfl ?_); (with_reducible apply sl_alloc HM); infer_instance; clear HM; (try clear wq); intro g10 wq HM; (try simp only [Act.put, List.setIfInBounds_toArray, List.set_cons_zero, List.set_cons_succ])) | ((with_reducible refine gate_dst (N := 140) rfl ?_); (with_reducible apply sl_lit HM); (focus (go_simp; (try rfl); done)); clear HM; (try clear wq); intro g140 wq HM; (try simp only [Act.put, List.setIfInBounds_toArray, List.set_cons_zero, List.set_cons_succ])) | ((with_reducible refine gate_dst (N := 141) rfl ?_); (with_reducible apply sl_append_lit HM); (first | exact Ev.tmp rfl | exact Ev.const); infer_instance; (first | exact Ev.tmp rfl | exact Ev.const); infer_instance; infer_instance; exact rfl; infer_instance; (first | omega | (simp only [List.length_append, List.length_cons, List.length_nil] at *; omega)); clear HM; (try clear wq); intro v141 wq HM; (try simp only [Act.put, List.setIfInBounds_toArray, List.set_cons_zero, List.set_cons_succ]); haveI := HM.rowOne v141) | ((with_reducible refine gate_dst (N := 147) rfl ?_); (with_reducible apply sl_lit HM); (focus (go_simp; (try rfl); done)); clear HM; (try clear wq); intro g147 wq HM; (try simp only [Act.put, List.setIfInBounds_toArray, List.set_cons_zero, List.set_cons_succ])) | ((with_reducible refine gate_dst (N := 148) rfl ?_); (with_reducible apply sl_append_lit HM); (first | exact Ev.tmp rfl | exact Ev.const); infer_instance; (first | exact Ev.tmp rfl | exact Ev.const); infer_instance; infer_instance; exact rfl; infer_instance; (first | omega | (simp only [List.length_append, List.length_cons, List.length_nil] at *; omega)); clear HM; (try clear wq); intro v148 wq HM; (try simp only [Act.put, List.setIfInBounds_toArray, List.set_cons_zero, List.set_cons_succ]); haveI := HM.rowOne v148))
    exact sl_ret1 rfl (vals_tmp rfl .nil) ⟨rfl, HM⟩
end Go.Proofs.Ytghfoooldcbdnaa
