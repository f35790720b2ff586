/-
  PART 7 OF THE PROOF OF SyncinEnds: laid together from the proof's own texts: Snd, Snd2.
-/
import Derived.Outline
import Derived.Laws.Cover3
import Derived.Test.YtghfoooldcbdnaaEnd5
set_option linter.unusedVariables false
set_option linter.unusedSimpArgs false
namespace Go.Proofs.Ytghfoooldcbdnaa
open Go.RowKit Go.Proofs.Ytghfoooldcbdnaa.SL Go.Proofs.YtghfoooldcbdnaaW.PrintWords

/-- A batch that waits. -/
structure Sn where
  n : Int
  l : List Rec
  A : Option Addr
  c : Nat
  due : Int
abbrev Sn.cells (s : Int) (x : Sn) : List Value := [.int .i64 s, .int .i64 x.n, .slice x.A x.l.length x.c, .int .i64 x.due]
abbrev sents (s : Int) (l : List Sn) : List Value := l.flatMap (Sn.cells s)
theorem sn_len (s : Int) (x : Sn) : (x.cells s).length = 4 := rfl
def Sn.own (x : Sn) : As := SL.seen x.A (recs x.l)
/-- A map of marks, as it lies. -/
def kenc (p : Fl × Int × Int) : Fl × List Value := (p.1, [.int .i64 p.2.1, .int .i64 p.2.2])
/-- What a flow's mark is. -/
def kmk : List (Fl × Int × Int) → Fl → Int × Int
  | [], _ => (0, 0)
  | (k, v) :: l, f => if f = k then v else kmk l f
def kpt : List (Fl × Int × Int) → Fl → Int × Int → List (Fl × Int × Int)
  | [], f, v => [(f, v)]
  | (k, x) :: l, f, v => if f = k then (k, v) :: l else (k, x) :: kpt l f v
theorem kmk_pt (l : List (Fl × Int × Int)) (f h : Fl) (v : Int × Int) : kmk (kpt l f v) h = if h = f then v else kmk l h := by
  induction l with
  | nil => simp [kpt, kmk]
  | cons p l ih =>
    obtain ⟨k, x⟩ := p
    unfold kpt
    by_cases hk : f = k
    · subst hk
      rw [if_pos rfl]
      unfold kmk
      by_cases hh : h = f
      · rw [if_pos hh, if_pos hh]
      · rw [if_neg hh, if_neg hh, if_neg hh]
    · rw [if_neg hk]
      unfold kmk
      by_cases hh : h = k
      · rw [if_pos hh, if_neg (fun e => hk (e.symm.trans hh)), if_pos hh]
      · rw [if_neg hh, if_neg hh, ih]
theorem kval_enc (l : List (Fl × Int × Int)) (f : Fl) : kval (kget (l.map kenc) f) = [.int .i64 (kmk l f).1, .int .i64 (kmk l f).2] := by
  induction l with
  | nil => rfl
  | cons p l ih =>
    obtain ⟨k, x⟩ := p
    simp only [List.map_cons, kenc, kget, kmk]
    by_cases hh : f = k
    · rw [if_pos hh, if_pos hh]; rfl
    · rw [if_neg hh, if_neg hh]; exact ih
theorem kput_enc (l : List (Fl × Int × Int)) (f : Fl) (a b : Int) : kput (l.map kenc) f [.int .i64 a, .int .i64 b] = (kpt l f (a, b)).map kenc := by
  induction l with
  | nil => rfl
  | cons p l ih =>
    obtain ⟨k, x⟩ := p
    simp only [List.map_cons, kenc, kput, kpt]
    by_cases hh : f = k
    · rw [if_pos hh, if_pos hh]; rfl
    · rw [if_neg hh, if_neg hh, List.map_cons, ← ih]; rfl
section
variable {ops : Array Oper} {a : Act} {K : Act → World → Prop} {Q : Exit → Act → World → Prop} {B : Nat} {w0 w : World} {H HS R : List As}
variable {dst : Option Tmp} {ty : TypeId} {pos : String} {after : Array Edge} {gd : Option (Nat × Bool)} {i : Nat} {p : List (Nat × Nat)}
set_option maxRecDepth 100000 in
theorem t_kmk (HM : SL.Mod B w0 H w) {m x : Operand} {g : Nat} (f : Fl) {l : List (Fl × Int × Int)} (ho : ops.toList[i]? = some ⟨dst, .lookup 131 m x false, ty, pos, after, gd⟩) (hw : Region.wanted ⟨dst, .lookup 131 m x false, ty, pos, after, gd⟩ (yielded ops a.tmps) = true)
    (hm : Ev a m (.map (some g))) (hx : Ev a x f.val) (hs : Sub HS H) (hk : KM HS g (l.map kenc) R)
    (k : wpT Try.prog ops Q (SL.Mod B w0 HS) p (a.put dst (.agg #[.int .i64 (kmk l f).1, .int .i64 (kmk l f).2])) w) : wpT Try.prog ops Q (SL.Mod B w0 HS) ((i, 0) :: p) a w :=
  t_klook HM f ho hw hm hx hs hk (by rw [kval_enc]; exact k)
set_option maxRecDepth 100000 in
theorem ow_kpt (HM : SL.Mod B w0 H w) {m x y : Operand} {g : Nat} (f : Fl) (u v : Int) {l : List (Fl × Int × Int)} (hm : Ev a m (.map (some g))) (hx : Ev a x f.val) (hy : Ev a y (.agg #[.int .i64 u, .int .i64 v])) (hk : KM H g (l.map kenc) R)
    (k : ∀ w', SL.Mod B w0 (kmap g ((kpt l f (u, v)).map kenc) :: R) w' → K a w') : Oper.wp Try.prog ⟨none, .mapUpdate 131 m x y, ty, pos, after, gd⟩ a w K Q :=
  ow_kput HM f [.int .i64 u, .int .i64 v] hm hx hy hk (fun w' h => k w' (by rw [kput_enc] at h; exact h))
end
/-- What a sender keeps. -/
structure SS where
  (s ev nx : Int)
  q : List Rec
  rg : List Sn
  kn : List (Fl × Int × Int)
/-- It lies in memory, in parts. -/
abbrev sndL (g gm : Nat) (vQ vR : Value) (S : SS) : List As :=
  [cells g [.int .i64 S.s, .int .i64 S.ev, .int .i64 S.nx, vQ, vR, .map (some gm)] 134, row vQ 53 8 S.q.length (recs S.q), row vR 140 4 S.rg.length (sents S.s S.rg), kmap gm (S.kn.map kenc), SL.star (S.rg.map Sn.own)]
/-- It lies in memory. -/
def snd (g : Nat) (S : SS) : As where
  sat F w := ∃ gm vQ vR, Sat (sndL g gm vQ vR S) F w
  loc h hk := by
    obtain ⟨gm, vQ, vR, h⟩ := h
    exact ⟨gm, vQ, vR, Sat.loc h hk⟩
  up h hk := by
    obtain ⟨gm, vQ, vR, h⟩ := h
    exact ⟨gm, vQ, vR, Sat.up h hk⟩
section
variable {B : Nat} {w0 w : World} {H R : List As} {g : Nat} {S : SS}
theorem Mod.openSnd (h : SL.Mod B w0 (snd g S :: H) w) : ∃ gm AQ cQ AR cR, SL.Mod B w0 (cells g [.int .i64 S.s, .int .i64 S.ev, .int .i64 S.nx, .slice AQ S.q.length cQ, .slice AR S.rg.length cR, .map (some gm)] 134 :: row (.slice AQ S.q.length cQ) 53 8 S.q.length (recs S.q) :: row (.slice AR S.rg.length cR) 140 4 S.rg.length (sents S.s S.rg) :: kmap gm (S.kn.map kenc) :: SL.star (S.rg.map Sn.own) :: H) w := by
  obtain ⟨F1, h1, ⟨gm, vQ, vR, h2⟩, h3⟩ := h.sat
  have hm : SL.Mod B w0 (sndL g gm vQ vR S ++ H) w := ⟨h.below, h.low, (Sat.append h2 h3 (fun b hb hc => hc.2 hb)).up (fun b hb => hb.elim (h1 b) (fun hc => hc.1))⟩
  have hm2 : SL.Mod B w0 (cells g [.int .i64 S.s, .int .i64 S.ev, .int .i64 S.nx, vQ, vR, .map (some gm)] 134 :: row vQ 53 8 S.q.length (recs S.q) :: row vR 140 4 S.rg.length (sents S.s S.rg) :: kmap gm (S.kn.map kenc) :: SL.star (S.rg.map Sn.own) :: H) w := hm
  have hrq : SL.Mod B w0 (row vR 140 4 S.rg.length (sents S.s S.rg) :: H) w := hm2.sub
  have hqq : SL.Mod B w0 (row vQ 53 8 S.q.length (recs S.q) :: H) w := hm2.sub
  obtain ⟨AQ, cQ, rfl, _⟩ := row_slice (hqq.rowOwn vQ)
  obtain ⟨AR, cR, rfl, _⟩ := row_slice (hrq.rowOwn vR)
  exact ⟨gm, AQ, cQ, AR, cR, hm2⟩
theorem Mod.closeSnd {gm : Nat} {vQ vR : Value} (h : SL.Mod B w0 (cells g [.int .i64 S.s, .int .i64 S.ev, .int .i64 S.nx, vQ, vR, .map (some gm)] 134 :: row vQ 53 8 S.q.length (recs S.q) :: row vR 140 4 S.rg.length (sents S.s S.rg) :: kmap gm (S.kn.map kenc) :: SL.star (S.rg.map Sn.own) :: H) w) : SL.Mod B w0 (snd g S :: H) w := by
  have h1 : SL.Mod B w0 (sndL g gm vQ vR S ++ H) w := h
  obtain ⟨F1, h2, h3, h4⟩ := (SL.Mod.star h1).sat
  exact ⟨h.below, h.low, F1, h2, ⟨gm, vQ, vR, h3⟩, h4⟩
/-- The records of a batch that waits are read. -/
theorem star_reads {L : List Sn} (h : SL.Mod B w0 (SL.star (L.map Sn.own) :: H) w) {x : Sn} (hx : x ∈ L) : Reads w x.A (recs x.l) := by
  obtain ⟨F1, h2⟩ := h.headSat
  obtain ⟨F2, h3⟩ := sat_mem (List.mem_map_of_mem hx) h2
  exact h3.2
end
/-- May a sender be made of these? -/
def mayS (s ev : Int) : Bool := inB s 0 4611686018427387904 && inB ev 1 10000
def SS.new (s ev : Int) : SS := ⟨s, ev, 1, [], [], []⟩
set_option maxHeartbeats 2000000 in
set_option maxRecDepth 100000 in
theorem sndNew_ok (s ev : Int) (h : mayS s ev = true) (w : World) : Calls Try.prog 30 #[.int .i64 s, .int .i64 ev] w fun e w' => ∃ g, e = .returned (.tuple #[.pointer (some ⟨g, 0, none⟩), .int .i64 0]) ∧ SL.Mod w.heap.size w [snd g (SS.new s ev)] w' := by
  have HM := Mod.start w
  obtain ⟨⟨h1, h2⟩, h3, h4⟩ : (0 ≤ s ∧ s ≤ 4611686018427387904) ∧ (1 ≤ ev ∧ ev ≤ 10000) := by simpa [mayS, inB, and_assoc] using h
  have b0 : decide (s < 0) = false := decide_eq_false (by omega); have b1 : decide (4611686018427387904 < s) = false := decide_eq_false (by omega); have b2 : decide (ev < 1) = false := decide_eq_false (by omega); have b3 : decide (10000 < ev) = false := decide_eq_false (by omega)
  clear h
  go_enter Try.func30, Try.ntmps30
  go_wp2_with (first | ((with_reducible refine gate_dst (N := 22) rfl ?_); (with_reducible apply sl_kmake HM); clear HM; (try clear wq); intro g22 wq HM; (try simp only [Act.put, List.setIfInBounds_toArray, List.set_cons_zero, List.set_cons_succ])) | (first | go_step3 | ((with_reducible apply sl_want); exact rfl) | ((with_reducible apply sl_load HM); exact rfl; infer_instance; infer_instance; (try simp only [Act.put, List.setIfInBounds_toArray, List.set_cons_zero, List.set_cons_succ])) | ((with_reducible apply sl_store HM); exact rfl; (first | exact Ev.tmp rfl | exact Ev.const); infer_instance; infer_instance; infer_instance; clear HM; (try clear wq); intro wq HM; (try simp only [Act.put, List.setIfInBounds_toArray, List.set_cons_zero, List.set_cons_succ])) | ((with_reducible apply sl_loadR); exact rfl; assumption; (try simp only [Act.put, List.setIfInBounds_toArray, List.set_cons_zero, List.set_cons_succ])) | ((with_reducible apply sl_loadH HM); exact rfl; assumption; infer_instance; (try simp only [Act.put, List.setIfInBounds_toArray, List.set_cons_zero, List.set_cons_succ])) | ((with_reducible refine gate_dst (N := 24) rfl ?_); (with_reducible apply sl_box HM); (first | exact Ev.tmp rfl | exact Ev.const); exact rfl; clear HM; (try clear wq); intro g24 wq HM; (try simp only [Act.put, List.setIfInBounds_toArray, List.set_cons_zero, List.set_cons_succ]))))
  refine sl_ret rfl (by simp) (vals_tmp rfl (vals_tmp rfl .nil)) ⟨g24, rfl, ?_⟩
  have HM1 : SL.Mod w.heap.size w (cells g24 [.int .i64 s, .int .i64 ev, .int .i64 1, .slice none 0 0, .slice none 0 0, .map (some g22)] 134 :: kmap g22 [] :: []) _ := HM
  have HM2 := ((HM1.nilRow 53 8).nilRow 140 4).starNil
  have HM3 : SL.Mod w.heap.size w [cells g24 [.int .i64 s, .int .i64 ev, .int .i64 1, .slice none 0 0, .slice none 0 0, .map (some g22)] 134, row (.slice none 0 0) 53 8 0 [], row (.slice none 0 0) 140 4 0 [], kmap g22 [], SL.star []] _ := HM2.sub
  exact Mod.closeSnd (S := SS.new s ev) (gm := g22) (vQ := .slice none 0 0) (vR := .slice none 0 0) HM3

set_option maxHeartbeats 2000000 in
set_option maxRecDepth 100000 in
theorem Waiting_calls (g : Nat) (S : SS) (B : Nat) (w0 w : World) (H : List As) (HM : SL.Mod B w0 (snd g S :: H) w) : Calls Try.prog 37 #[.pointer (some ⟨g, 0, none⟩)] w fun e w' => e = .returned (.tuple #[.int .i64 S.q.length, .int .i64 S.rg.length]) ∧ SL.Mod B w0 (snd g S :: H) w' := by
  obtain ⟨gm, AQ, cQ, AR, cR, HM1⟩ := Mod.openSnd HM
  clear HM
  have HM := HM1
  clear HM1
  go_enter Try.func37, Try.ntmps37
  go_wp2_with (first | go_step3 | ((with_reducible apply sl_want); exact rfl) | ((with_reducible apply sl_load HM); exact rfl; infer_instance; infer_instance; (try simp only [Act.put, List.setIfInBounds_toArray, List.set_cons_zero, List.set_cons_succ])) | ((with_reducible apply sl_store HM); exact rfl; (first | exact Ev.tmp rfl | exact Ev.const); infer_instance; infer_instance; infer_instance; clear HM; (try clear wq); intro wq HM; (try simp only [Act.put, List.setIfInBounds_toArray, List.set_cons_zero, List.set_cons_succ])) | ((with_reducible apply sl_loadR); exact rfl; assumption; (try simp only [Act.put, List.setIfInBounds_toArray, List.set_cons_zero, List.set_cons_succ])) | ((with_reducible apply sl_loadH HM); exact rfl; assumption; infer_instance; (try simp only [Act.put, List.setIfInBounds_toArray, List.set_cons_zero, List.set_cons_succ])))
  refine wp_drawnS HM [] [(0, 1), (1, 1), (2, 1), (3, 0), (4, 1), (5, 1), (6, 1), (7, 1), (8, 0), (9, 1), (10, 1), (11, 1)] (by kernel_rfl) (by kernel_rfl) (by kernel_rfl) (by kernel_rfl) (fun _ _ d _ _ h => by cases d <;> exact h) ?_; clear HM; (try clear wq); intro wq HM
  repeat (first | ((with_reducible apply t_move); exact rfl; exact rfl; (first | exact Ev.tmp rfl | exact Ev.const); (try simp only [Act.put, List.setIfInBounds_toArray, List.set_cons_zero, List.set_cons_succ])) | ((with_reducible apply t_assign); exact rfl; exact rfl; (first | exact Ev.tmp rfl | exact Ev.const); (try simp only [Act.put, List.setIfInBounds_toArray, List.set_cons_zero, List.set_cons_succ])) | ((with_reducible apply t_load HM); exact rfl; exact rfl; exact rfl; infer_instance; infer_instance; infer_instance; (try simp only [Act.put, List.setIfInBounds_toArray, List.set_cons_zero, List.set_cons_succ])) | ((with_reducible apply t_loadH HM); exact rfl; exact rfl; exact rfl; assumption; infer_instance; infer_instance; (try simp only [Act.put, List.setIfInBounds_toArray, List.set_cons_zero, List.set_cons_succ])) | ((with_reducible apply t_skip); exact rfl; exact rfl; (try simp only [Act.put, List.setIfInBounds_toArray, List.set_cons_zero, List.set_cons_succ])) | ((with_reducible apply t_skip0 HM); exact rfl; exact rfl; infer_instance; (try simp only [Act.put, List.setIfInBounds_toArray, List.set_cons_zero, List.set_cons_succ])) | ((with_reducible apply t_skip2 HM); exact rfl; exact rfl; infer_instance; (try simp only [Act.put, List.setIfInBounds_toArray, List.set_cons_zero, List.set_cons_succ])) | ((with_reducible apply t_pure); exact rfl; exact rfl; (focus (intro wv; go_simp; (try (go_ints; (try go_simp))); (first | done | rfl | (rw [if_pos (by omega)]; done)))); (try simp only [Act.put, List.setIfInBounds_toArray, List.set_cons_zero, List.set_cons_succ])))
  refine t_nil ?_
  go_wp2_with (fail)
  exact sl_ret rfl (by simp) (vals_tmp rfl (vals_tmp rfl .nil)) ⟨rfl, Mod.closeSnd HM⟩

instance recs_ones (l : List Rec) : Ones (recs l) := ⟨by
  intro u hu
  obtain ⟨r, _, hr⟩ := List.mem_flatMap.1 hu
  simp only [Rec.cells, List.mem_cons, List.not_mem_nil, or_false] at hr
  rcases hr with rfl | rfl | rfl | rfl | rfl | rfl | rfl | rfl <;> rfl⟩
set_option maxRecDepth 100000 in
theorem eqlnil (A : Option Addr) (n c : Nat) (w : World) : (binOp .eql 43 (.slice A n c) (.slice none 0 0)).run Try.prog w = .ok (.bool A.isNone) w := by
  simp only [binOp]
  simp [run_equal_slice_nil w 43 53 A n c Try.underlying43]
section
attribute [local go_sem] eqlnil
set_option maxHeartbeats 2000000 in
set_option maxRecDepth 100000 in
theorem Clone_calls (A : Option Addr) (c n : Nat) (l : List Rec) (hn : l.length = n) (hb : n * 80 ≤ 140737488355328) (B : Nat) (w0 w : World) (H : List As) (hr : ∀ w, SL.Mod B w0 H w → Reads w A (recs l)) (HM : SL.Mod B w0 H w) :
    Calls Try.prog 71 #[.slice A n c] w fun e w' => ∃ A' c', e = .returned (.slice A' n c') ∧ SL.Mod B w0 (row (.slice A' n c') 53 8 n (recs l) :: H) w' := by
  have HR := Aside0.mk hr
  have HN := Aside0.mk hn
  clear hr hn
  cases A with
  | none =>
    have e0 : l = [] := by
      cases l with
      | nil => rfl
      | cons x l => obtain ⟨ad, h, _⟩ := HR.out _ HM 0 _ rfl; cases h
    subst e0
    have e1 : n = 0 := HN.out.symm
    subst e1
    go_enter Try.func71, Try.ntmps71
    go_wp2_with (first | go_step3 | ((with_reducible apply sl_want); exact rfl) | ((with_reducible apply sl_load HM); exact rfl; infer_instance; infer_instance; (try simp only [Act.put, List.setIfInBounds_toArray, List.set_cons_zero, List.set_cons_succ])) | ((with_reducible apply sl_store HM); exact rfl; (first | exact Ev.tmp rfl | exact Ev.const); infer_instance; infer_instance; infer_instance; clear HM; (try clear wq); intro wq HM; (try simp only [Act.put, List.setIfInBounds_toArray, List.set_cons_zero, List.set_cons_succ])) | ((with_reducible apply sl_loadR); exact rfl; assumption; (try simp only [Act.put, List.setIfInBounds_toArray, List.set_cons_zero, List.set_cons_succ])) | ((with_reducible apply sl_loadH HM); exact rfl; assumption; infer_instance; (try simp only [Act.put, List.setIfInBounds_toArray, List.set_cons_zero, List.set_cons_succ])) | ((with_reducible refine gate_dst (N := 5) rfl ?_); (with_reducible apply sl_lit HM); (focus (go_simp; (try rfl); done)); clear HM; (try clear wq); intro g5 wq HM; (try simp only [Act.put, List.setIfInBounds_toArray, List.set_cons_zero, List.set_cons_succ])) | ((with_reducible refine gate_dst (N := 7) rfl ?_); (with_reducible apply sl_append_lit HM); (first | exact Ev.tmp rfl | exact Ev.const); infer_instance; (first | exact Ev.tmp rfl | exact Ev.const); infer_instance; infer_instance; exact rfl; infer_instance; (first | omega | (simp only [List.length_append, List.length_cons, List.length_nil] at *; omega)); clear HM; (try clear wq); intro v7 wq HM; (try simp only [Act.put, List.setIfInBounds_toArray, List.set_cons_zero, List.set_cons_succ]); haveI := HM.rowOne v7))
    exact sl_ret1 rfl (vals_tmp rfl .nil) ⟨none, 0, rfl, HM.nilRow 53 8⟩
  | some ad =>
    go_enter Try.func71, Try.ntmps71
    go_wp2_with first | ((with_reducible refine gate_dst (N := 7) rfl ?_); have HM1 := HM.litRow g5 8 0 rfl (by decide); clear HM; have HM := HM1; clear HM1; (with_reducible apply sl_append_reads HM); (first | exact Ev.tmp rfl | exact Ev.const); infer_instance; (first | exact Ev.tmp rfl | exact Ev.const); infer_instance; exact (HR.out _ HM.sub); exact (by rw [flat_len rec_len, HN.out]); infer_instance; (first | omega | (simp only [List.length_append, List.length_cons, List.length_nil] at *; omega)); clear HM; (try clear wq); intro v7 wq HM; (try simp only [Act.put, List.setIfInBounds_toArray, List.set_cons_zero, List.set_cons_succ]); haveI := HM.rowOne v7) | (first | go_step3 | ((with_reducible apply sl_want); exact rfl) | ((with_reducible apply sl_load HM); exact rfl; infer_instance; infer_instance; (try simp only [Act.put, List.setIfInBounds_toArray, List.set_cons_zero, List.set_cons_succ])) | ((with_reducible apply sl_store HM); exact rfl; (first | exact Ev.tmp rfl | exact Ev.const); infer_instance; infer_instance; infer_instance; clear HM; (try clear wq); intro wq HM; (try simp only [Act.put, List.setIfInBounds_toArray, List.set_cons_zero, List.set_cons_succ])) | ((with_reducible apply sl_loadR); exact rfl; assumption; (try simp only [Act.put, List.setIfInBounds_toArray, List.set_cons_zero, List.set_cons_succ])) | ((with_reducible apply sl_loadH HM); exact rfl; assumption; infer_instance; (try simp only [Act.put, List.setIfInBounds_toArray, List.set_cons_zero, List.set_cons_succ])) | ((with_reducible refine gate_dst (N := 5) rfl ?_); (with_reducible apply sl_lit HM); (focus (go_simp; (try rfl); done)); clear HM; (try clear wq); intro g5 wq HM; (try simp only [Act.put, List.setIfInBounds_toArray, List.set_cons_zero, List.set_cons_succ])) | ((with_reducible refine gate_dst (N := 7) rfl ?_); (with_reducible apply sl_append_lit HM); (first | exact Ev.tmp rfl | exact Ev.const); infer_instance; (first | exact Ev.tmp rfl | exact Ev.const); infer_instance; infer_instance; exact rfl; infer_instance; (first | omega | (simp only [List.length_append, List.length_cons, List.length_nil] at *; omega)); clear HM; (try clear wq); intro v7 wq HM; (try simp only [Act.put, List.setIfInBounds_toArray, List.set_cons_zero, List.set_cons_succ]); haveI := HM.rowOne v7))
    obtain ⟨A7, c7, rfl, _⟩ := row_slice (HM.rowOwn v7)
    rw [List.nil_append, Nat.zero_add] at HM
    refine sl_ret1 rfl (vals_tmp rfl .nil) ⟨A7, c7, ?_, HM⟩
    rw [Nat.zero_add]
end
set_option maxHeartbeats 2000000 in
set_option maxRecDepth 100000 in
theorem copied_calls (s m : Int) (A : Option Addr) (c n : Nat) (l : List Rec) (hn : l.length = n) (hb : n * 80 ≤ 140737488355328) (B : Nat) (w0 w : World) (H : List As) (hr : ∀ w, SL.Mod B w0 H w → Reads w A (recs l)) (HM : SL.Mod B w0 H w) :
    Calls Try.prog 69 #[.agg #[.int .i64 s, .int .i64 m, .slice A n c]] w fun e w' => ∃ A' c', e = .returned (.agg #[.int .i64 s, .int .i64 m, .slice A' n c']) ∧ SL.Mod B w0 (row (.slice A' n c') 53 8 n (recs l) :: H) w' := by
  have HR := Aside0.mk hr
  clear hr
  go_enter Try.func69, Try.ntmps69
  go_wp2_with first | (go_at_call 71; refine (Clone_calls A c n l hn hb _ _ _ _ (fun w h => HR.out w h.sub) HM).mono ?_; rintro e wq ⟨A5, c5, rfl, HM1⟩; clear HM; have HM := HM1; clear HM1) | (first | go_step3 | ((with_reducible apply sl_want); exact rfl) | ((with_reducible apply sl_load HM); exact rfl; infer_instance; infer_instance; (try simp only [Act.put, List.setIfInBounds_toArray, List.set_cons_zero, List.set_cons_succ])) | ((with_reducible apply sl_store HM); exact rfl; (first | exact Ev.tmp rfl | exact Ev.const); infer_instance; infer_instance; infer_instance; clear HM; (try clear wq); intro wq HM; (try simp only [Act.put, List.setIfInBounds_toArray, List.set_cons_zero, List.set_cons_succ])) | ((with_reducible apply sl_loadR); exact rfl; assumption; (try simp only [Act.put, List.setIfInBounds_toArray, List.set_cons_zero, List.set_cons_succ])) | ((with_reducible apply sl_loadH HM); exact rfl; assumption; infer_instance; (try simp only [Act.put, List.setIfInBounds_toArray, List.set_cons_zero, List.set_cons_succ])) | ((with_reducible refine gate_dst (N := 1) rfl ?_); (with_reducible apply sl_box HM); (first | exact Ev.tmp rfl | exact Ev.const); exact rfl; clear HM; (try clear wq); intro g1 wq HM; (try simp only [Act.put, List.setIfInBounds_toArray, List.set_cons_zero, List.set_cons_succ])) | ((with_reducible refine gate_dst (N := 2) rfl ?_); (with_reducible apply sl_alloc HM); infer_instance; clear HM; (try clear wq); intro g2 wq HM; (try simp only [Act.put, List.setIfInBounds_toArray, List.set_cons_zero, List.set_cons_succ])))
  exact sl_ret1 rfl (vals_cell HM rfl inferInstance inferInstance rfl .nil) ⟨A5, c5, rfl, HM.sub⟩
end Go.Proofs.Ytghfoooldcbdnaa
set_option linter.unusedVariables false
set_option linter.unusedSimpArgs false
namespace Go.Proofs.Ytghfoooldcbdnaa
open Go.RowKit Go.Proofs.Ytghfoooldcbdnaa.SL Go.Proofs.YtghfoooldcbdnaaW.PrintWords

/-- Where a flow's record stands in a row. -/
def idxQ (q : List Rec) (f : Fl) : Option Nat := q.findIdx? (fun x => decide (x.fl = f))
def optIx : Option Nat → Int
  | some k => k
  | none => -1
theorem idx_none {q : List Rec} {f : Fl} (h : q.all (fun x => !decide (x.fl = f)) = true) : idxQ q f = none := by
  unfold idxQ
  rw [List.findIdx?_eq_none_iff]
  intro x hx
  have := List.all_eq_true.1 h x hx
  simpa using this
theorem idx_at {q : List Rec} {f : Fl} {k : Nat} {x : Rec} (h : (q.take k).all (fun x => !decide (x.fl = f)) = true) (hk : q[k]? = some x) (hx : x.fl = f) : idxQ q f = some k := by
  unfold idxQ
  rw [List.findIdx?_eq_some_iff_getElem]
  have hlt : k < q.length := (List.getElem?_eq_some_iff.1 hk).1
  refine ⟨hlt, ?_, fun j hj => ?_⟩
  · rw [List.getElem?_eq_getElem hlt] at hk
    injection hk with hk
    simp [hk, hx]
  · have h2 := List.all_eq_true.1 h (q[j]'(by omega)) (by
      rw [List.mem_take_iff_getElem]
      exact ⟨j, by omega, rfl⟩)
    simpa using h2
theorem idx_lt {q : List Rec} {f : Fl} {k : Nat} (h : idxQ q f = some k) : k < q.length := by
  unfold idxQ at h
  rw [List.findIdx?_eq_some_iff_getElem] at h
  exact h.1
set_option maxHeartbeats 2000000 in
set_option maxRecDepth 100000 in
theorem sameFlow_calls (x r : Rec) (g3 : Nat) (B : Nat) (w0 w : World) (H : List As) (HM : SL.Mod B w0 (cells g3 r.cells 53 :: H) w) :
    Calls Try.prog 67 #[.agg x.cells.toArray, .pointer (some ⟨g3, 0, none⟩)] w fun e w' => e = .returned (.bool (decide (x.fl = r.fl))) ∧ SL.Mod B w0 (cells g3 r.cells 53 :: H) w' := by
  by_cases h : x.fl = r.fl
  · have E : Aside0 (decide (x.fl = r.fl) = true) := ⟨decide_eq_true h⟩
    rw [E.out]
    obtain ⟨x0, x1, x2, x3, x4, x5, x6, x7⟩ := x
    obtain ⟨r0, r1, r2, r3, r4, r5, r6, r7⟩ := r
    simp only [Rec.fl, Fl.mk.injEq] at h
    obtain ⟨rfl, rfl, rfl, rfl, rfl⟩ := h
    clear E
    go_enter Try.func67, Try.ntmps67
    go_wp2_with (first | go_step3 | ((with_reducible apply sl_want); exact rfl) | ((with_reducible apply sl_load HM); exact rfl; infer_instance; infer_instance; (try simp only [Act.put, List.setIfInBounds_toArray, List.set_cons_zero, List.set_cons_succ])) | ((with_reducible apply sl_store HM); exact rfl; (first | exact Ev.tmp rfl | exact Ev.const); infer_instance; infer_instance; infer_instance; clear HM; (try clear wq); intro wq HM; (try simp only [Act.put, List.setIfInBounds_toArray, List.set_cons_zero, List.set_cons_succ])) | ((with_reducible apply sl_loadR); exact rfl; assumption; (try simp only [Act.put, List.setIfInBounds_toArray, List.set_cons_zero, List.set_cons_succ])) | ((with_reducible apply sl_loadH HM); exact rfl; assumption; infer_instance; (try simp only [Act.put, List.setIfInBounds_toArray, List.set_cons_zero, List.set_cons_succ])) | ((with_reducible refine gate_dst (N := 2) rfl ?_); (with_reducible apply sl_box HM); (first | exact Ev.tmp rfl | exact Ev.const); exact rfl; clear HM; (try clear wq); intro g2 wq HM; (try simp only [Act.put, List.setIfInBounds_toArray, List.set_cons_zero, List.set_cons_succ])))
    exact sl_ret1 rfl (vals_tmp rfl .nil) ⟨rfl, HM.sub⟩
  · have E : Aside0 (decide (x.fl = r.fl) = false) := ⟨decide_eq_false h⟩
    have HN : Aside0 (¬ (x.pr = r.pr ∧ x.fr.toList = r.fr.toList ∧ x.tt.toList = r.tt.toList ∧ x.po = r.po ∧ x.de = r.de)) := ⟨by
      rintro ⟨h0, h1, h2, h3, h4⟩
      apply h
      unfold Rec.fl
      rw [h0, toList_ext h1, toList_ext h2, h3, h4]⟩
    rw [E.out]
    clear h
    go_enter Try.func67, Try.ntmps67
    go_wp2_with (first | go_step3 | ((with_reducible apply sl_want); exact rfl) | ((with_reducible apply sl_load HM); exact rfl; infer_instance; infer_instance; (try simp only [Act.put, List.setIfInBounds_toArray, List.set_cons_zero, List.set_cons_succ])) | ((with_reducible apply sl_store HM); exact rfl; (first | exact Ev.tmp rfl | exact Ev.const); infer_instance; infer_instance; infer_instance; clear HM; (try clear wq); intro wq HM; (try simp only [Act.put, List.setIfInBounds_toArray, List.set_cons_zero, List.set_cons_succ])) | ((with_reducible apply sl_loadR); exact rfl; assumption; (try simp only [Act.put, List.setIfInBounds_toArray, List.set_cons_zero, List.set_cons_succ])) | ((with_reducible apply sl_loadH HM); exact rfl; assumption; infer_instance; (try simp only [Act.put, List.setIfInBounds_toArray, List.set_cons_zero, List.set_cons_succ])) | ((with_reducible refine gate_dst (N := 2) rfl ?_); (with_reducible apply sl_box HM); (first | exact Ev.tmp rfl | exact Ev.const); exact rfl; clear HM; (try clear wq); intro g2 wq HM; (try simp only [Act.put, List.setIfInBounds_toArray, List.set_cons_zero, List.set_cons_succ])))
    all_goals first | exact sl_ret1 rfl (vals_tmp rfl .nil) ⟨rfl, HM.sub⟩ | (exfalso; exact HN.out ⟨‹_›, ‹_›, ‹_›, ‹_›, ‹_›⟩)

set_option maxHeartbeats 2000000 in
set_option maxRecDepth 100000 in
theorem indexQ_calls (q : List Rec) (r : Rec) (A : Option Addr) (c g3 : Nat) (hl : q.length ≤ 1000000) (B : Nat) (w0 w : World) (H : List As) (hr : ∀ w, SL.Mod B w0 (cells g3 r.cells 53 :: H) w → Reads w A (recs q)) (HM : SL.Mod B w0 (cells g3 r.cells 53 :: H) w) :
    Calls Try.prog 66 #[.slice A q.length c, .func (.func 67) #[] #[.pointer (some ⟨g3, 0, none⟩)]] w fun e w' => e = .returned (.int .i64 (optIx (idxQ q r.fl))) ∧ SL.Mod B w0 (cells g3 r.cells 53 :: H) w' := by
  have HR := Aside0.mk hr
  clear hr
  go_enter Try.func66, Try.ntmps66
  go_wp2_with (first | go_step3 | ((with_reducible apply sl_want); exact rfl) | ((with_reducible apply sl_load HM); exact rfl; infer_instance; infer_instance; (try simp only [Act.put, List.setIfInBounds_toArray, List.set_cons_zero, List.set_cons_succ])) | ((with_reducible apply sl_store HM); exact rfl; (first | exact Ev.tmp rfl | exact Ev.const); infer_instance; infer_instance; infer_instance; clear HM; (try clear wq); intro wq HM; (try simp only [Act.put, List.setIfInBounds_toArray, List.set_cons_zero, List.set_cons_succ])) | ((with_reducible apply sl_loadR); exact rfl; assumption; (try simp only [Act.put, List.setIfInBounds_toArray, List.set_cons_zero, List.set_cons_succ])) | ((with_reducible apply sl_loadH HM); exact rfl; assumption; infer_instance; (try simp only [Act.put, List.setIfInBounds_toArray, List.set_cons_zero, List.set_cons_succ])))
  go_loopw [5, 8] (fun v5 v8 wr => ∃ k : Nat, v8 = .int .i64 k ∧ k ≤ q.length ∧ Aside0 ((q.take k).all (fun x => !decide (x.fl = r.fl)) = true) ∧ Aside0 (SL.Mod B w0 (cells g3 r.cells 53 :: H) wr)) (fun _ v8 _ => q.length - (intOf v8).toNat)
  case atStart => exact ⟨0, rfl, by omega, ⟨rfl⟩, ⟨HM⟩⟩
  case round =>
    obtain ⟨k, rfl, hk, HA, HM0⟩ := hrel
    clear HM
    have HM := HM0.out
    clear HM0
    by_cases hlt : k < q.length
    · obtain ⟨ad, rfl⟩ := (HR.out _ HM).addr (by rw [flat_len rec_len]; omega)
      obtain ⟨x, hx⟩ : ∃ x, q[k]? = some x := ⟨_, List.getElem?_eq_getElem hlt⟩
      have hld : Aside0 (∀ w', SL.Mod B w0 (cells g3 r.cells 53 :: H) w' → Sem.run Try.prog (Instr.loadAt 53 (.pointer (some (ad.add (k * 8))))) w' = .ok (.agg x.cells.toArray) w') := ⟨fun w' h => load_seg (HR.out _ h) (k * 8) (flat_seg rec_len q k x hx) (rec_len x)⟩
      have HX := Aside0.mk hx
      clear hx
      by_cases hf : x.fl = r.fl
      · have E : Aside0 (decide (x.fl = r.fl) = true) := ⟨decide_eq_true hf⟩
        have E2 : Aside0 (idxQ q r.fl = some k) := ⟨idx_at HA.out HX.out hf⟩
        clear hf
        go_wp2_with first | (go_at_call 67; refine (sameFlow_calls x r g3 B w0 _ H HM).mono ?_; rintro e wq ⟨rfl, HM1⟩; clear HM; have HM := HM1; clear HM1; rw [E.out]) | (first | go_step3 | ((with_reducible apply sl_want); exact rfl) | ((with_reducible apply sl_load HM); exact rfl; infer_instance; infer_instance; (try simp only [Act.put, List.setIfInBounds_toArray, List.set_cons_zero, List.set_cons_succ])) | ((with_reducible apply sl_store HM); exact rfl; (first | exact Ev.tmp rfl | exact Ev.const); infer_instance; infer_instance; infer_instance; clear HM; (try clear wq); intro wq HM; (try simp only [Act.put, List.setIfInBounds_toArray, List.set_cons_zero, List.set_cons_succ])) | ((with_reducible apply sl_loadR); exact rfl; assumption; (try simp only [Act.put, List.setIfInBounds_toArray, List.set_cons_zero, List.set_cons_succ])) | ((with_reducible apply sl_loadH HM); exact rfl; assumption; infer_instance; (try simp only [Act.put, List.setIfInBounds_toArray, List.set_cons_zero, List.set_cons_succ])))
        exact sl_ret1 rfl (vals_tmp rfl .nil) ⟨by rw [E2.out]; rfl, HM⟩
      · have E : Aside0 (decide (x.fl = r.fl) = false) := ⟨decide_eq_false hf⟩
        clear hf
        go_wp2_with first | (go_at_call 67; refine (sameFlow_calls x r g3 B w0 _ H HM).mono ?_; rintro e wq ⟨rfl, HM1⟩; clear HM; have HM := HM1; clear HM1; rw [E.out]) | (first | go_step3 | ((with_reducible apply sl_want); exact rfl) | ((with_reducible apply sl_load HM); exact rfl; infer_instance; infer_instance; (try simp only [Act.put, List.setIfInBounds_toArray, List.set_cons_zero, List.set_cons_succ])) | ((with_reducible apply sl_store HM); exact rfl; (first | exact Ev.tmp rfl | exact Ev.const); infer_instance; infer_instance; infer_instance; clear HM; (try clear wq); intro wq HM; (try simp only [Act.put, List.setIfInBounds_toArray, List.set_cons_zero, List.set_cons_succ])) | ((with_reducible apply sl_loadR); exact rfl; assumption; (try simp only [Act.put, List.setIfInBounds_toArray, List.set_cons_zero, List.set_cons_succ])) | ((with_reducible apply sl_loadH HM); exact rfl; assumption; infer_instance; (try simp only [Act.put, List.setIfInBounds_toArray, List.set_cons_zero, List.set_cons_succ])))
        refine ⟨⟨k + 1, rfl, hlt, ⟨?_⟩, ⟨HM⟩⟩, by simp only [intOf]; omega⟩
        rw [List.take_add_one, HX.out, List.all_append, HA.out]
        simp [E.out]
    · have hkl : k = q.length := by omega
      subst hkl
      have E2 : Aside0 (idxQ q r.fl = none) := ⟨idx_none (by have := HA.out; rwa [List.take_length] at this)⟩
      go_wp2_with (first | go_step3 | ((with_reducible apply sl_want); exact rfl) | ((with_reducible apply sl_load HM); exact rfl; infer_instance; infer_instance; (try simp only [Act.put, List.setIfInBounds_toArray, List.set_cons_zero, List.set_cons_succ])) | ((with_reducible apply sl_store HM); exact rfl; (first | exact Ev.tmp rfl | exact Ev.const); infer_instance; infer_instance; infer_instance; clear HM; (try clear wq); intro wq HM; (try simp only [Act.put, List.setIfInBounds_toArray, List.set_cons_zero, List.set_cons_succ])) | ((with_reducible apply sl_loadR); exact rfl; assumption; (try simp only [Act.put, List.setIfInBounds_toArray, List.set_cons_zero, List.set_cons_succ])) | ((with_reducible apply sl_loadH HM); exact rfl; assumption; infer_instance; (try simp only [Act.put, List.setIfInBounds_toArray, List.set_cons_zero, List.set_cons_succ])))
      exact sl_ret1 rfl (vals_tmp rfl .nil) ⟨by rw [E2.out]; rfl, HM⟩

section
variable {ops : Array Oper} {a : Act} {Q : Exit → Act → World → Prop} {B : Nat} {w0 w : World} {H : List As}
/-- A map is to be written in the region: the reads stand on the rest. -/
theorem wp_drawnK {id : Nat} (HM : SL.Mod B w0 H w) (g : Nat) {ps : List (Fl × List Value)} {R : List As} [hv : KM H g ps R] (ds : List Nat) (p : List (Nat × Nat)) (hm : Try.prog.follows .mixedOrders = true) (hs : Region.noSelect ops = true) (hl : decide (p.length ≤ ops.size) = true)
    (hok : okT .any ops ds p (Array.replicate ops.size false) = true)
    (hQ : ∀ c a d v w, Q (.panic c) (Act.put a d v) w → Q (.panic c) a w) (h : ∀ w', SL.Mod B w0 (kmap g ps :: R) w' → wpT Try.prog ops Q (SL.Mod B w0 R) p a w') : (Code.region id ops true).wp Try.prog Q a w :=
  wp_drawnM (Mod.pickMap HM g) R ds p hm hs hl hok hQ h
end
/-- What Add makes of a sender. -/
def SS.add (S : SS) (r : Rec) : SS × Bool :=
  if r.ok = true then match idxQ S.q r.fl with
    | some k => ({ S with q := S.q.set k r, kn := kpt S.kn r.fl (1, 0) }, true)
    | none => if 256 ≤ S.q.length then (S, false) else ({ S with q := S.q ++ [r], kn := kpt S.kn r.fl (1, 0) }, true)
  else (S, false)
def AddPost (g : Nat) (S : SS) (r : Rec) (B : Nat) (w0 : World) (H : List As) (e : Ending) (w' : World) : Prop := e = .returned (.bool (S.add r).2) ∧ SL.Mod B w0 (snd g (S.add r).1 :: H) w'
theorem recs_len (q : List Rec) : (recs q).length = q.length * 8 := flat_len rec_len q
theorem set_recs : ∀ (q : List Rec) (k : Nat) (r : Rec), k < q.length → recs (q.set k r) = (recs q).take (k * 8) ++ r.cells ++ (recs q).drop (k * 8 + 8)
  | [], k, r, h => by simp at h
  | x :: q, 0, r, _ => by
    simp only [recs, List.set_cons_zero, List.flatMap_cons, Nat.zero_mul, List.take_zero, List.nil_append, Nat.zero_add]
    congr 1
  | x :: q, k + 1, r, h => by
    have h1 := set_recs q k r (by simpa using h)
    simp only [recs, List.set_cons_succ, List.flatMap_cons] at h1 ⊢
    rw [h1]
    have e1 : (k + 1) * 8 = x.cells.length + k * 8 := by rw [rec_len]; omega
    have e2 : (k + 1) * 8 + 8 = x.cells.length + (k * 8 + 8) := by rw [rec_len]; omega
    rw [e2, e1, List.take_append, List.drop_append, List.take_of_length_le (l := x.cells) (by omega), List.drop_eq_nil_of_le (show x.cells.length ≤ x.cells.length + (k * 8 + 8) by omega), List.nil_append]
    simp only [Nat.add_sub_cancel_left, List.append_assoc]
/-- A piece of a block, written over. -/
theorem put_mid (cs vs : List Value) (off : Nat) (h : off + vs.length ≤ cs.length) : PutAt cs off vs (cs.take off ++ vs ++ cs.drop (off + vs.length)) := ⟨⟨rfl, h⟩⟩
theorem rowLen {B : Nat} {w0 w : World} {H : List As} {v : Value} {e : TypeId} {sz n n' : Nat} {xs : List Value} (h : SL.Mod B w0 (row v e sz n xs :: H) w) (hn : n = n') : SL.Mod B w0 (row v e sz n' xs :: H) w := hn ▸ h
theorem mid_len (cs vs : List Value) (off : Nat) (h : off + vs.length ≤ cs.length) : (cs.take off ++ vs ++ cs.drop (off + vs.length)).length = cs.length := by
  simp only [List.length_append, List.length_take, List.length_drop]
  omega
theorem mid_take (cs vs : List Value) (off m : Nat) (h : off + vs.length ≤ m) (hm : m ≤ cs.length) : (cs.take off ++ vs ++ cs.drop (off + vs.length)).take m = (cs.take m).take off ++ vs ++ (cs.take m).drop (off + vs.length) := by
  have e1 : (cs.take off).length = off := by rw [List.length_take]; omega
  rw [List.append_assoc, List.take_append, e1, List.take_append, List.take_of_length_le (l := cs.take off) (by omega), List.take_of_length_le (l := vs) (by omega), List.take_take, Nat.min_eq_left (by omega), List.drop_take, List.append_assoc]
  congr 3
  omega
set_option maxHeartbeats 4000000 in
set_option maxRecDepth 100000 in
theorem Add_calls (g : Nat) (S : SS) (r : Rec) (hq : S.q.length ≤ 256) (h1 : r.fr.size ≤ maxLen) (h2 : r.tt.size ≤ maxLen) (B : Nat) (w0 w : World) (H : List As) (HM : SL.Mod B w0 (snd g S :: H) w) :
    Calls Try.prog 33 #[.pointer (some ⟨g, 0, none⟩), .agg r.cells.toArray] w (AddPost g S r B w0 H) := by
  obtain ⟨gm, AQ, cQ, AR, cR, HM1⟩ := Mod.openSnd HM
  clear HM
  have HM := HM1
  clear HM1
  have HF := Aside0.mk h1
  have HT := Aside0.mk h2
  have HQ : Aside0 (S.q.length ≤ 1000000) := ⟨by omega⟩
  clear h1 h2
  by_cases hok : r.ok = true
  · cases hi : idxQ S.q r.fl with
    | none =>
      by_cases hlen : 256 ≤ S.q.length
      · have E : Aside0 (S.add r = (S, false)) := ⟨by unfold SS.add; rw [if_pos hok, hi]; dsimp only; rw [if_pos hlen]⟩
        unfold AddPost
        rw [E.out]
        have HI : Aside0 (optIx (idxQ S.q r.fl) = -1) := ⟨by rw [hi]; rfl⟩
        have hd : decide (256 ≤ (S.q.length : Int)) = true := decide_eq_true (by omega)
        clear hi
        go_enter Try.func33, Try.ntmps33
        go_wp2_with first | (go_at_call 66; refine (indexQ_calls S.q r _ _ g3 HQ.out B w0 _ _ (fun w h => (ownsRow_reads (h.rowOwn (.slice AQ S.q.length cQ))).1) HM).mono ?_; rintro e wq ⟨rfl, HM1⟩; clear HM; have HM := HM1; clear HM1; rw [HI.out]) | (go_at_call 68; (with_reducible refine (Right_calls r HF.out HT.out _).mono ?_); rintro e wq ⟨rfl, hj⟩; have HM1 := HM.step hj.below; clear HM hj; have HM := HM1; clear HM1) | (first | go_step3 | ((with_reducible apply sl_want); exact rfl) | ((with_reducible apply sl_load HM); exact rfl; infer_instance; infer_instance; (try simp only [Act.put, List.setIfInBounds_toArray, List.set_cons_zero, List.set_cons_succ])) | ((with_reducible apply sl_store HM); exact rfl; (first | exact Ev.tmp rfl | exact Ev.const); infer_instance; infer_instance; infer_instance; clear HM; (try clear wq); intro wq HM; (try simp only [Act.put, List.setIfInBounds_toArray, List.set_cons_zero, List.set_cons_succ])) | ((with_reducible apply sl_loadR); exact rfl; assumption; (try simp only [Act.put, List.setIfInBounds_toArray, List.set_cons_zero, List.set_cons_succ])) | ((with_reducible apply sl_loadH HM); exact rfl; assumption; infer_instance; (try simp only [Act.put, List.setIfInBounds_toArray, List.set_cons_zero, List.set_cons_succ])) | ((with_reducible refine gate_dst (N := 3) rfl ?_); (with_reducible apply sl_box HM); (first | exact Ev.tmp rfl | exact Ev.const); exact rfl; clear HM; (try clear wq); intro g3 wq HM; (try simp only [Act.put, List.setIfInBounds_toArray, List.set_cons_zero, List.set_cons_succ])) | ((with_reducible refine gate_dst (N := 18) rfl ?_); (with_reducible apply sl_lit HM); (focus (go_simp; (try rfl); done)); clear HM; (try clear wq); intro g18 wq HM; (try simp only [Act.put, List.setIfInBounds_toArray, List.set_cons_zero, List.set_cons_succ])) | ((with_reducible refine gate_dst (N := 19) rfl ?_); (with_reducible apply sl_append_lit HM); (first | exact Ev.tmp rfl | exact Ev.const); infer_instance; (first | exact Ev.tmp rfl | exact Ev.const); infer_instance; infer_instance; exact rfl; infer_instance; (first | omega | (simp only [List.length_append, List.length_cons, List.length_nil] at *; omega)); clear HM; (try clear wq); intro v19 wq HM; (try simp only [Act.put, List.setIfInBounds_toArray, List.set_cons_zero, List.set_cons_succ]); haveI := HM.rowOne v19))
        exact sl_ret1 rfl (vals_tmp rfl .nil) ⟨rfl, (Mod.closeSnd (gm := gm) (vQ := .slice AQ S.q.length cQ) (vR := .slice AR S.rg.length cR) HM.sub)⟩
      · have E : Aside0 (S.add r = ({ S with q := S.q ++ [r], kn := kpt S.kn r.fl (1, 0) }, true)) := ⟨by unfold SS.add; rw [if_pos hok, hi]; dsimp only; rw [if_neg hlen]⟩
        unfold AddPost
        rw [E.out]
        have HI : Aside0 (optIx (idxQ S.q r.fl) = -1) := ⟨by rw [hi]; rfl⟩
        have hd : decide (256 ≤ (S.q.length : Int)) = false := decide_eq_false (by omega)
        clear hi
        go_enter Try.func33, Try.ntmps33
        go_wp2_with first | (go_at_call 66; refine (indexQ_calls S.q r _ _ g3 HQ.out B w0 _ _ (fun w h => (ownsRow_reads (h.rowOwn (.slice AQ S.q.length cQ))).1) HM).mono ?_; rintro e wq ⟨rfl, HM1⟩; clear HM; have HM := HM1; clear HM1; rw [HI.out]) | (go_at_call 68; (with_reducible refine (Right_calls r HF.out HT.out _).mono ?_); rintro e wq ⟨rfl, hj⟩; have HM1 := HM.step hj.below; clear HM hj; have HM := HM1; clear HM1) | (first | go_step3 | ((with_reducible apply sl_want); exact rfl) | ((with_reducible apply sl_load HM); exact rfl; infer_instance; infer_instance; (try simp only [Act.put, List.setIfInBounds_toArray, List.set_cons_zero, List.set_cons_succ])) | ((with_reducible apply sl_store HM); exact rfl; (first | exact Ev.tmp rfl | exact Ev.const); infer_instance; infer_instance; infer_instance; clear HM; (try clear wq); intro wq HM; (try simp only [Act.put, List.setIfInBounds_toArray, List.set_cons_zero, List.set_cons_succ])) | ((with_reducible apply sl_loadR); exact rfl; assumption; (try simp only [Act.put, List.setIfInBounds_toArray, List.set_cons_zero, List.set_cons_succ])) | ((with_reducible apply sl_loadH HM); exact rfl; assumption; infer_instance; (try simp only [Act.put, List.setIfInBounds_toArray, List.set_cons_zero, List.set_cons_succ])) | ((with_reducible refine gate_dst (N := 3) rfl ?_); (with_reducible apply sl_box HM); (first | exact Ev.tmp rfl | exact Ev.const); exact rfl; clear HM; (try clear wq); intro g3 wq HM; (try simp only [Act.put, List.setIfInBounds_toArray, List.set_cons_zero, List.set_cons_succ])) | ((with_reducible refine gate_dst (N := 18) rfl ?_); (with_reducible apply sl_lit HM); (focus (go_simp; (try rfl); done)); clear HM; (try clear wq); intro g18 wq HM; (try simp only [Act.put, List.setIfInBounds_toArray, List.set_cons_zero, List.set_cons_succ])) | ((with_reducible refine gate_dst (N := 19) rfl ?_); (with_reducible apply sl_append_lit HM); (first | exact Ev.tmp rfl | exact Ev.const); infer_instance; (first | exact Ev.tmp rfl | exact Ev.const); infer_instance; infer_instance; exact rfl; infer_instance; (first | omega | (simp only [List.length_append, List.length_cons, List.length_nil] at *; omega)); clear HM; (try clear wq); intro v19 wq HM; (try simp only [Act.put, List.setIfInBounds_toArray, List.set_cons_zero, List.set_cons_succ]); haveI := HM.rowOne v19))
        refine wp_drawnR HM (.slice AQ S.q.length cQ) [10] [(0, 1), (1, 1), (2, 1), (3, 1), (4, 0), (5, 0), (6, 2), (7, 2), (8, 1), (9, 1), (10, 3)] (by kernel_rfl) (by kernel_rfl) (by kernel_rfl) (by kernel_rfl) (fun _ _ d _ _ h => by cases d <;> exact h) ?_; clear HM; (try clear wq); intro wq HM
        repeat (first | ((with_reducible refine t_at (n := 10) rfl ?_); haveI := HM.rowOne v19; ((with_reducible apply t_last); exact rfl; exact rfl; intro K hK; (with_reducible apply ow_store HM); exact rfl; (first | exact Ev.tmp rfl | exact Ev.const); infer_instance; infer_instance; infer_instance; clear HM; (try clear wq); intro  wq HM; refine hK _ _ ?_; clear hK K; (try simp only [Act.put, List.setIfInBounds_toArray, List.set_cons_zero, List.set_cons_succ]))) | ((with_reducible apply t_move); exact rfl; exact rfl; (first | exact Ev.tmp rfl | exact Ev.const); (try simp only [Act.put, List.setIfInBounds_toArray, List.set_cons_zero, List.set_cons_succ])) | ((with_reducible apply t_assign); exact rfl; exact rfl; (first | exact Ev.tmp rfl | exact Ev.const); (try simp only [Act.put, List.setIfInBounds_toArray, List.set_cons_zero, List.set_cons_succ])) | ((with_reducible apply t_load HM); exact rfl; exact rfl; exact rfl; infer_instance; infer_instance; infer_instance; (try simp only [Act.put, List.setIfInBounds_toArray, List.set_cons_zero, List.set_cons_succ])) | ((with_reducible apply t_loadH HM); exact rfl; exact rfl; exact rfl; assumption; infer_instance; infer_instance; (try simp only [Act.put, List.setIfInBounds_toArray, List.set_cons_zero, List.set_cons_succ])) | ((with_reducible apply t_skip); exact rfl; exact rfl; (try simp only [Act.put, List.setIfInBounds_toArray, List.set_cons_zero, List.set_cons_succ])) | ((with_reducible apply t_skip0 HM); exact rfl; exact rfl; infer_instance; (try simp only [Act.put, List.setIfInBounds_toArray, List.set_cons_zero, List.set_cons_succ])) | ((with_reducible apply t_skip2 HM); exact rfl; exact rfl; infer_instance; (try simp only [Act.put, List.setIfInBounds_toArray, List.set_cons_zero, List.set_cons_succ])) | ((with_reducible apply t_pure); exact rfl; exact rfl; (focus (intro wv; go_simp; (try (go_ints; (try go_simp))); (first | done | rfl | (rw [if_pos (by omega)]; done)))); (try simp only [Act.put, List.setIfInBounds_toArray, List.set_cons_zero, List.set_cons_succ])) | ((with_reducible apply t_eff); exact rfl; exact rfl; intro K hK; (with_reducible apply ow_lit HM); (focus (go_simp; (try rfl); done)); clear HM; (try clear wq); intro g18 wq HM; refine hK _ _ _ HM inferInstance ?_; clear hK K; (try simp only [Act.put, List.setIfInBounds_toArray, List.set_cons_zero, List.set_cons_succ])) | ((with_reducible refine t_at (n := 7) rfl ?_); ((with_reducible apply t_eff); exact rfl; exact rfl; intro K hK; (with_reducible apply ow_append_lit HM); (first | exact Ev.tmp rfl | exact Ev.const); infer_instance; (first | exact Ev.tmp rfl | exact Ev.const); infer_instance; infer_instance; exact rfl; infer_instance; (first | omega | (simp only [List.length_append, List.length_cons, List.length_nil] at *; omega)); clear HM; (try clear wq); intro v19 wq HM; refine hK _ _ _ HM inferInstance ?_; clear hK K; (try simp only [Act.put, List.setIfInBounds_toArray, List.set_cons_zero, List.set_cons_succ]))) | ((with_reducible apply t_eff); exact rfl; exact rfl; intro K hK; (with_reducible apply ow_store HM); exact rfl; (first | exact Ev.tmp rfl | exact Ev.const); infer_instance; infer_instance; infer_instance; clear HM; (try clear wq); intro  wq HM; refine hK _ _ _ HM inferInstance ?_; clear hK K; (try simp only [Act.put, List.setIfInBounds_toArray, List.set_cons_zero, List.set_cons_succ])) | ((with_reducible apply t_last); exact rfl; exact rfl; intro K hK; (with_reducible apply ow_store HM); exact rfl; (first | exact Ev.tmp rfl | exact Ev.const); infer_instance; infer_instance; infer_instance; clear HM; (try clear wq); intro  wq HM; refine hK _ _ ?_; clear hK K; (try simp only [Act.put, List.setIfInBounds_toArray, List.set_cons_zero, List.set_cons_succ])))
        refine t_nil ?_
        go_wp2_with (fail)
        refine wp_drawnK HM gm [] [(0, 1), (1, 1), (2, 1), (3, 0), (4, 1), (5, 0), (6, 1), (7, 2)] (by kernel_rfl) (by kernel_rfl) (by kernel_rfl) (by kernel_rfl) (fun _ _ d _ _ h => by cases d <;> exact h) ?_; clear HM; (try clear wq); intro wq HM
        repeat (first | ((with_reducible refine t_at (n := 7) rfl ?_); (with_reducible apply t_eff); exact rfl; exact rfl; intro K hK; (with_reducible apply ow_kpt HM (r.fl) (1) (0)); (first | exact Ev.tmp rfl | exact Ev.const); (first | exact Ev.tmp rfl | exact Ev.const); (first | exact Ev.tmp rfl | exact Ev.const); infer_instance; clear HM; (try clear wq); intro wq HM; refine hK _ _ _ HM inferInstance ?_; clear hK K; (try simp only [Act.put, List.setIfInBounds_toArray, List.set_cons_zero, List.set_cons_succ])) | ((with_reducible apply t_move); exact rfl; exact rfl; (first | exact Ev.tmp rfl | exact Ev.const); (try simp only [Act.put, List.setIfInBounds_toArray, List.set_cons_zero, List.set_cons_succ])) | ((with_reducible apply t_assign); exact rfl; exact rfl; (first | exact Ev.tmp rfl | exact Ev.const); (try simp only [Act.put, List.setIfInBounds_toArray, List.set_cons_zero, List.set_cons_succ])) | ((with_reducible apply t_load HM); exact rfl; exact rfl; exact rfl; infer_instance; infer_instance; infer_instance; (try simp only [Act.put, List.setIfInBounds_toArray, List.set_cons_zero, List.set_cons_succ])) | ((with_reducible apply t_loadH HM); exact rfl; exact rfl; exact rfl; assumption; infer_instance; infer_instance; (try simp only [Act.put, List.setIfInBounds_toArray, List.set_cons_zero, List.set_cons_succ])) | ((with_reducible apply t_skip); exact rfl; exact rfl; (try simp only [Act.put, List.setIfInBounds_toArray, List.set_cons_zero, List.set_cons_succ])) | ((with_reducible apply t_skip0 HM); exact rfl; exact rfl; infer_instance; (try simp only [Act.put, List.setIfInBounds_toArray, List.set_cons_zero, List.set_cons_succ])) | ((with_reducible apply t_skip2 HM); exact rfl; exact rfl; infer_instance; (try simp only [Act.put, List.setIfInBounds_toArray, List.set_cons_zero, List.set_cons_succ])) | ((with_reducible apply t_pure); exact rfl; exact rfl; (focus (intro wv; go_simp; (try (go_ints; (try go_simp))); (first | done | rfl | (rw [if_pos (by omega)]; done)))); (try simp only [Act.put, List.setIfInBounds_toArray, List.set_cons_zero, List.set_cons_succ])))
        refine t_nil ?_
        go_wp2_with (fail)
        have e1 : recs S.q ++ r.cells = recs (S.q ++ [r]) := by simp [recs, List.flatMap_append]
        have e2 : S.q.length + 1 = (S.q ++ [r]).length := by simp
        rw [e1, e2] at HM
        exact sl_ret1 rfl (vals_tmp rfl .nil) ⟨rfl, (Mod.closeSnd (gm := gm) (vQ := v19) (vR := .slice AR S.rg.length cR) HM.sub)⟩
    | some k =>
      have hk := idx_lt hi
      have E : Aside0 (S.add r = ({ S with q := S.q.set k r, kn := kpt S.kn r.fl (1, 0) }, true)) := ⟨by unfold SS.add; rw [if_pos hok, hi]⟩
      unfold AddPost
      rw [E.out]
      have HI : Aside0 (optIx (idxQ S.q r.fl) = k) := ⟨by rw [hi]; rfl⟩
      obtain ⟨ad, rfl⟩ : ∃ ad, AQ = some ad := (ownsRow_reads (HM.rowOwn (.slice AQ S.q.length cQ))).1.addr (by rw [recs_len]; omega)
      obtain ⟨gQ, cs, rfl, HM1, _, hc1, hc2, hcl, hct⟩ := Mod.openRow (HM.pickRow (.slice (some ad) S.q.length cQ))
      clear HM
      have HM := HM1
      clear HM1
      have HCT := Aside0.mk hct
      have HCL := Aside0.mk hcl
      have HC1 := Aside0.mk hc1
      have HC2 := Aside0.mk hc2
      have HRD : Aside0 (∀ w', SL.Mod B w0 [cells gQ cs 53] w' → Reads w' (some ⟨gQ, 0, none⟩) (recs S.q)) := ⟨fun w' h => by
        rw [← HCT.out]
        exact Reads.take (fun j u hu => ⟨_, rfl, cells_at (h.has gQ) j u hu⟩) _⟩
      haveI := put_mid cs r.cells (k * 8) (by rw [rec_len, hcl]; omega)
      have hq0 : decide ((k : Int) < 0) = false := decide_eq_false (by omega)
      clear hi hct hcl hc1 hc2
      go_enter Try.func33, Try.ntmps33
      go_wp2_with first | (go_at_call 66; refine (indexQ_calls S.q r _ _ g3 HQ.out B w0 _ _ (fun w h => HRD.out w h.sub) HM).mono ?_; rintro e wq ⟨rfl, HM1⟩; clear HM; have HM := HM1; clear HM1; rw [HI.out]) | (go_at_call 68; (with_reducible refine (Right_calls r HF.out HT.out _).mono ?_); rintro e wq ⟨rfl, hj⟩; have HM1 := HM.step hj.below; clear HM hj; have HM := HM1; clear HM1) | (first | go_step3 | ((with_reducible apply sl_want); exact rfl) | ((with_reducible apply sl_load HM); exact rfl; infer_instance; infer_instance; (try simp only [Act.put, List.setIfInBounds_toArray, List.set_cons_zero, List.set_cons_succ])) | ((with_reducible apply sl_store HM); exact rfl; (first | exact Ev.tmp rfl | exact Ev.const); infer_instance; infer_instance; infer_instance; clear HM; (try clear wq); intro wq HM; (try simp only [Act.put, List.setIfInBounds_toArray, List.set_cons_zero, List.set_cons_succ])) | ((with_reducible apply sl_loadR); exact rfl; assumption; (try simp only [Act.put, List.setIfInBounds_toArray, List.set_cons_zero, List.set_cons_succ])) | ((with_reducible apply sl_loadH HM); exact rfl; assumption; infer_instance; (try simp only [Act.put, List.setIfInBounds_toArray, List.set_cons_zero, List.set_cons_succ])) | ((with_reducible refine gate_dst (N := 3) rfl ?_); (with_reducible apply sl_box HM); (first | exact Ev.tmp rfl | exact Ev.const); exact rfl; clear HM; (try clear wq); intro g3 wq HM; (try simp only [Act.put, List.setIfInBounds_toArray, List.set_cons_zero, List.set_cons_succ])) | ((with_reducible refine gate_dst (N := 18) rfl ?_); (with_reducible apply sl_lit HM); (focus (go_simp; (try rfl); done)); clear HM; (try clear wq); intro g18 wq HM; (try simp only [Act.put, List.setIfInBounds_toArray, List.set_cons_zero, List.set_cons_succ])) | ((with_reducible refine gate_dst (N := 19) rfl ?_); (with_reducible apply sl_append_lit HM); (first | exact Ev.tmp rfl | exact Ev.const); infer_instance; (first | exact Ev.tmp rfl | exact Ev.const); infer_instance; infer_instance; exact rfl; infer_instance; (first | omega | (simp only [List.length_append, List.length_cons, List.length_nil] at *; omega)); clear HM; (try clear wq); intro v19 wq HM; (try simp only [Act.put, List.setIfInBounds_toArray, List.set_cons_zero, List.set_cons_succ]); haveI := HM.rowOne v19))
      refine wp_drawnB HM gQ [] [(0, 1), (1, 1), (2, 1), (3, 0), (4, 1), (5, 0), (6, 1), (7, 2)] (by kernel_rfl) (by kernel_rfl) (by kernel_rfl) (by kernel_rfl) (fun _ _ d _ _ h => by cases d <;> exact h) ?_; clear HM; (try clear wq); intro wq HM
      repeat (first | ((with_reducible apply t_move); exact rfl; exact rfl; (first | exact Ev.tmp rfl | exact Ev.const); (try simp only [Act.put, List.setIfInBounds_toArray, List.set_cons_zero, List.set_cons_succ])) | ((with_reducible apply t_assign); exact rfl; exact rfl; (first | exact Ev.tmp rfl | exact Ev.const); (try simp only [Act.put, List.setIfInBounds_toArray, List.set_cons_zero, List.set_cons_succ])) | ((with_reducible apply t_load HM); exact rfl; exact rfl; exact rfl; infer_instance; infer_instance; infer_instance; (try simp only [Act.put, List.setIfInBounds_toArray, List.set_cons_zero, List.set_cons_succ])) | ((with_reducible apply t_loadH HM); exact rfl; exact rfl; exact rfl; assumption; infer_instance; infer_instance; (try simp only [Act.put, List.setIfInBounds_toArray, List.set_cons_zero, List.set_cons_succ])) | ((with_reducible apply t_skip); exact rfl; exact rfl; (try simp only [Act.put, List.setIfInBounds_toArray, List.set_cons_zero, List.set_cons_succ])) | ((with_reducible apply t_skip0 HM); exact rfl; exact rfl; infer_instance; (try simp only [Act.put, List.setIfInBounds_toArray, List.set_cons_zero, List.set_cons_succ])) | ((with_reducible apply t_skip2 HM); exact rfl; exact rfl; infer_instance; (try simp only [Act.put, List.setIfInBounds_toArray, List.set_cons_zero, List.set_cons_succ])) | ((with_reducible apply t_pure); exact rfl; exact rfl; (focus (intro wv; go_simp; (try (go_ints; (try go_simp))); (first | done | rfl | (rw [if_pos (by omega)]; done)))); (try simp only [Act.put, List.setIfInBounds_toArray, List.set_cons_zero, List.set_cons_succ])) | ((with_reducible apply t_eff); exact rfl; exact rfl; intro K hK; (with_reducible apply ow_store HM); exact rfl; (first | exact Ev.tmp rfl | exact Ev.const); infer_instance; infer_instance; infer_instance; clear HM; (try clear wq); intro  wq HM; refine hK _ _ _ HM inferInstance ?_; clear hK K; (try simp only [Act.put, List.setIfInBounds_toArray, List.set_cons_zero, List.set_cons_succ])) | ((with_reducible apply t_last); exact rfl; exact rfl; intro K hK; (with_reducible apply ow_store HM); exact rfl; (first | exact Ev.tmp rfl | exact Ev.const); infer_instance; infer_instance; infer_instance; clear HM; (try clear wq); intro  wq HM; refine hK _ _ ?_; clear hK K; (try simp only [Act.put, List.setIfInBounds_toArray, List.set_cons_zero, List.set_cons_succ])))
      refine t_nil ?_
      go_wp2_with (fail)
      refine wp_drawnK HM gm [] [(0, 1), (1, 1), (2, 1), (3, 0), (4, 1), (5, 0), (6, 1), (7, 2)] (by kernel_rfl) (by kernel_rfl) (by kernel_rfl) (by kernel_rfl) (fun _ _ d _ _ h => by cases d <;> exact h) ?_; clear HM; (try clear wq); intro wq HM
      repeat (first | ((with_reducible refine t_at (n := 7) rfl ?_); (with_reducible apply t_eff); exact rfl; exact rfl; intro K hK; (with_reducible apply ow_kpt HM (r.fl) (1) (0)); (first | exact Ev.tmp rfl | exact Ev.const); (first | exact Ev.tmp rfl | exact Ev.const); (first | exact Ev.tmp rfl | exact Ev.const); infer_instance; clear HM; (try clear wq); intro wq HM; refine hK _ _ _ HM inferInstance ?_; clear hK K; (try simp only [Act.put, List.setIfInBounds_toArray, List.set_cons_zero, List.set_cons_succ])) | ((with_reducible apply t_move); exact rfl; exact rfl; (first | exact Ev.tmp rfl | exact Ev.const); (try simp only [Act.put, List.setIfInBounds_toArray, List.set_cons_zero, List.set_cons_succ])) | ((with_reducible apply t_assign); exact rfl; exact rfl; (first | exact Ev.tmp rfl | exact Ev.const); (try simp only [Act.put, List.setIfInBounds_toArray, List.set_cons_zero, List.set_cons_succ])) | ((with_reducible apply t_load HM); exact rfl; exact rfl; exact rfl; infer_instance; infer_instance; infer_instance; (try simp only [Act.put, List.setIfInBounds_toArray, List.set_cons_zero, List.set_cons_succ])) | ((with_reducible apply t_loadH HM); exact rfl; exact rfl; exact rfl; assumption; infer_instance; infer_instance; (try simp only [Act.put, List.setIfInBounds_toArray, List.set_cons_zero, List.set_cons_succ])) | ((with_reducible apply t_skip); exact rfl; exact rfl; (try simp only [Act.put, List.setIfInBounds_toArray, List.set_cons_zero, List.set_cons_succ])) | ((with_reducible apply t_skip0 HM); exact rfl; exact rfl; infer_instance; (try simp only [Act.put, List.setIfInBounds_toArray, List.set_cons_zero, List.set_cons_succ])) | ((with_reducible apply t_skip2 HM); exact rfl; exact rfl; infer_instance; (try simp only [Act.put, List.setIfInBounds_toArray, List.set_cons_zero, List.set_cons_succ])) | ((with_reducible apply t_pure); exact rfl; exact rfl; (focus (intro wv; go_simp; (try (go_ints; (try go_simp))); (first | done | rfl | (rw [if_pos (by omega)]; done)))); (try simp only [Act.put, List.setIfInBounds_toArray, List.set_cons_zero, List.set_cons_succ])))
      refine t_nil ?_
      go_wp2_with (fail)
      have HM1 : SL.Mod B w0 (cells gQ (cs.take (k * 8) ++ r.cells ++ cs.drop (k * 8 + r.cells.length)) 53 :: _) wq := HM.pickBlk gQ
      have hlen : k * 8 + r.cells.length ≤ cs.length := by rw [rec_len, HCL.out]; have := HC1.out; omega
      have HM2 := Mod.closeRow (n := S.q.length) (xs := recs (S.q.set k r)) HM1 HC1.out HC2.out (by rw [mid_len _ _ _ hlen, HCL.out]) (by
        rw [set_recs _ _ _ hk, ← HCT.out, mid_take _ _ _ _ (by rw [rec_len]; omega) (by rw [HCL.out]; have := HC1.out; omega), rec_len])
      have HM3 := rowLen HM2 (show S.q.length = (S.q.set k r).length from by rw [List.length_set])
      exact sl_ret1 rfl (vals_tmp rfl .nil) ⟨rfl, (Mod.closeSnd (gm := gm) (vQ := .slice (some ⟨gQ, 0, none⟩) S.q.length cQ) (vR := .slice AR S.rg.length cR) HM3.sub)⟩
  · have hok' : r.ok = false := by simpa using hok
    have E : Aside0 (S.add r = (S, false)) := ⟨by unfold SS.add; rw [if_neg hok]⟩
    unfold AddPost
    rw [E.out]
    clear hok
    go_enter Try.func33, Try.ntmps33
    go_wp2_with first | (go_at_call 66; refine (indexQ_calls S.q r _ _ g3 HQ.out B w0 _ _ (fun w h => (ownsRow_reads (h.rowOwn (.slice AQ S.q.length cQ))).1) HM).mono ?_; rintro e wq ⟨rfl, HM1⟩; clear HM; have HM := HM1; clear HM1) | (go_at_call 68; (with_reducible refine (Right_calls r HF.out HT.out _).mono ?_); rintro e wq ⟨rfl, hj⟩; have HM1 := HM.step hj.below; clear HM hj; have HM := HM1; clear HM1) | (first | go_step3 | ((with_reducible apply sl_want); exact rfl) | ((with_reducible apply sl_load HM); exact rfl; infer_instance; infer_instance; (try simp only [Act.put, List.setIfInBounds_toArray, List.set_cons_zero, List.set_cons_succ])) | ((with_reducible apply sl_store HM); exact rfl; (first | exact Ev.tmp rfl | exact Ev.const); infer_instance; infer_instance; infer_instance; clear HM; (try clear wq); intro wq HM; (try simp only [Act.put, List.setIfInBounds_toArray, List.set_cons_zero, List.set_cons_succ])) | ((with_reducible apply sl_loadR); exact rfl; assumption; (try simp only [Act.put, List.setIfInBounds_toArray, List.set_cons_zero, List.set_cons_succ])) | ((with_reducible apply sl_loadH HM); exact rfl; assumption; infer_instance; (try simp only [Act.put, List.setIfInBounds_toArray, List.set_cons_zero, List.set_cons_succ])) | ((with_reducible refine gate_dst (N := 3) rfl ?_); (with_reducible apply sl_box HM); (first | exact Ev.tmp rfl | exact Ev.const); exact rfl; clear HM; (try clear wq); intro g3 wq HM; (try simp only [Act.put, List.setIfInBounds_toArray, List.set_cons_zero, List.set_cons_succ])) | ((with_reducible refine gate_dst (N := 18) rfl ?_); (with_reducible apply sl_lit HM); (focus (go_simp; (try rfl); done)); clear HM; (try clear wq); intro g18 wq HM; (try simp only [Act.put, List.setIfInBounds_toArray, List.set_cons_zero, List.set_cons_succ])) | ((with_reducible refine gate_dst (N := 19) rfl ?_); (with_reducible apply sl_append_lit HM); (first | exact Ev.tmp rfl | exact Ev.const); infer_instance; (first | exact Ev.tmp rfl | exact Ev.const); infer_instance; infer_instance; exact rfl; infer_instance; (first | omega | (simp only [List.length_append, List.length_cons, List.length_nil] at *; omega)); clear HM; (try clear wq); intro v19 wq HM; (try simp only [Act.put, List.setIfInBounds_toArray, List.set_cons_zero, List.set_cons_succ]); haveI := HM.rowOne v19))
    exact sl_ret1 rfl (vals_tmp rfl .nil) ⟨rfl, (Mod.closeSnd (gm := gm) (vQ := .slice AQ S.q.length cQ) (vR := .slice AR S.rg.length cR) HM.sub)⟩

set_option maxHeartbeats 2000000 in
set_option maxRecDepth 100000 in
theorem Known_calls (g : Nat) (S : SS) (f : Fl) (B : Nat) (w0 w : World) (H : List As) (HM : SL.Mod B w0 (snd g S :: H) w) :
    Calls Try.prog 45 #[.pointer (some ⟨g, 0, none⟩), .agg f.cells.toArray] w fun e w' => e = .returned (.int .i64 (kmk S.kn f).1) ∧ SL.Mod B w0 (snd g S :: H) w' := by
  obtain ⟨gm, AQ, cQ, AR, cR, HM1⟩ := Mod.openSnd HM
  clear HM
  have HM := HM1
  clear HM1
  go_enter Try.func45, Try.ntmps45
  go_wp2_with (first | go_step3 | ((with_reducible apply sl_want); exact rfl) | ((with_reducible apply sl_load HM); exact rfl; infer_instance; infer_instance; (try simp only [Act.put, List.setIfInBounds_toArray, List.set_cons_zero, List.set_cons_succ])) | ((with_reducible apply sl_store HM); exact rfl; (first | exact Ev.tmp rfl | exact Ev.const); infer_instance; infer_instance; infer_instance; clear HM; (try clear wq); intro wq HM; (try simp only [Act.put, List.setIfInBounds_toArray, List.set_cons_zero, List.set_cons_succ])) | ((with_reducible apply sl_loadR); exact rfl; assumption; (try simp only [Act.put, List.setIfInBounds_toArray, List.set_cons_zero, List.set_cons_succ])) | ((with_reducible apply sl_loadH HM); exact rfl; assumption; infer_instance; (try simp only [Act.put, List.setIfInBounds_toArray, List.set_cons_zero, List.set_cons_succ])) | ((with_reducible refine gate_dst (N := 3) rfl ?_); (with_reducible apply sl_box HM); (first | exact Ev.tmp rfl | exact Ev.const); exact rfl; clear HM; (try clear wq); intro g3 wq HM; (try simp only [Act.put, List.setIfInBounds_toArray, List.set_cons_zero, List.set_cons_succ])))
  refine wp_drawnS HM [] [(0, 1), (1, 1), (2, 1), (3, 0), (4, 0), (5, 0), (6, 1), (7, 1)] (by kernel_rfl) (by kernel_rfl) (by kernel_rfl) (by kernel_rfl) (fun _ _ d _ _ h => by cases d <;> exact h) ?_; clear HM; (try clear wq); intro wq HM
  repeat (first | ((with_reducible apply t_kmk HM (f)); exact rfl; exact rfl; (first | exact Ev.tmp rfl | exact Ev.const); (first | exact Ev.tmp rfl | exact Ev.const); infer_instance; infer_instance; (try simp only [Act.put, List.setIfInBounds_toArray, List.set_cons_zero, List.set_cons_succ])) | ((with_reducible apply t_move); exact rfl; exact rfl; (first | exact Ev.tmp rfl | exact Ev.const); (try simp only [Act.put, List.setIfInBounds_toArray, List.set_cons_zero, List.set_cons_succ])) | ((with_reducible apply t_assign); exact rfl; exact rfl; (first | exact Ev.tmp rfl | exact Ev.const); (try simp only [Act.put, List.setIfInBounds_toArray, List.set_cons_zero, List.set_cons_succ])) | ((with_reducible apply t_load HM); exact rfl; exact rfl; exact rfl; infer_instance; infer_instance; infer_instance; (try simp only [Act.put, List.setIfInBounds_toArray, List.set_cons_zero, List.set_cons_succ])) | ((with_reducible apply t_loadH HM); exact rfl; exact rfl; exact rfl; assumption; infer_instance; infer_instance; (try simp only [Act.put, List.setIfInBounds_toArray, List.set_cons_zero, List.set_cons_succ])) | ((with_reducible apply t_skip); exact rfl; exact rfl; (try simp only [Act.put, List.setIfInBounds_toArray, List.set_cons_zero, List.set_cons_succ])) | ((with_reducible apply t_skip0 HM); exact rfl; exact rfl; infer_instance; (try simp only [Act.put, List.setIfInBounds_toArray, List.set_cons_zero, List.set_cons_succ])) | ((with_reducible apply t_skip2 HM); exact rfl; exact rfl; infer_instance; (try simp only [Act.put, List.setIfInBounds_toArray, List.set_cons_zero, List.set_cons_succ])) | ((with_reducible apply t_pure); exact rfl; exact rfl; (focus (intro wv; go_simp; (try (go_ints; (try go_simp))); (first | done | rfl | (rw [if_pos (by omega)]; done)))); (try simp only [Act.put, List.setIfInBounds_toArray, List.set_cons_zero, List.set_cons_succ])))
  refine t_nil ?_
  go_wp2_with (fail)
  exact sl_ret1 rfl (vals_tmp rfl .nil) ⟨rfl, (Mod.closeSnd (gm := gm) (vQ := .slice AQ S.q.length cQ) (vR := .slice AR S.rg.length cR) HM.sub)⟩
end Go.Proofs.Ytghfoooldcbdnaa
