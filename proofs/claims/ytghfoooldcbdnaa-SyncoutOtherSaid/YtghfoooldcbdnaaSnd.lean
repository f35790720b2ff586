/-
  THE SENDER OF PACKAGE syncout: what it keeps; New, Session, Waiting, Clone, copied, room walked.
-/
import Derived.Test.YtghfoooldcbdnaaOps6
import Derived.Outline
import Derived.Laws.Cover3
set_option linter.unusedVariables false
set_option linter.unusedSimpArgs false
namespace Go.Proofs.Ytghfoooldcbdnaa
open Go.RowKit Go.Proofs.Ytghfoooldcbdnaa.SL Go.Proofs.YtghfoooldcbdnaaW.PrintWords

/-- A batch that waits. -/
structure Sn where
  n : Int
  l : List Rec
  A : Option Addr
  c : Nat
  due : Int
abbrev Sn.cells (s : Int) (x : Sn) : List Value := [.int .i64 s, .int .i64 x.n, .slice x.A x.l.length x.c, .int .i64 x.due]
abbrev sents (s : Int) (l : List Sn) : List Value := l.flatMap (Sn.cells s)
theorem sn_len (s : Int) (x : Sn) : (x.cells s).length = 4 := rfl
def Sn.own (x : Sn) : As := SL.seen x.A (recs x.l)
/-- A map of marks, as it lies. -/
def kenc (p : Fl × Int × Int) : Fl × List Value := (p.1, [.int .i64 p.2.1, .int .i64 p.2.2])
/-- What a flow's mark is. -/
def kmk : List (Fl × Int × Int) → Fl → Int × Int
  | [], _ => (0, 0)
  | (k, v) :: l, f => if f = k then v else kmk l f
def kpt : List (Fl × Int × Int) → Fl → Int × Int → List (Fl × Int × Int)
  | [], f, v => [(f, v)]
  | (k, x) :: l, f, v => if f = k then (k, v) :: l else (k, x) :: kpt l f v
theorem kmk_pt (l : List (Fl × Int × Int)) (f h : Fl) (v : Int × Int) : kmk (kpt l f v) h = if h = f then v else kmk l h := by
  induction l with
  | nil => simp [kpt, kmk]
  | cons p l ih =>
    obtain ⟨k, x⟩ := p
    unfold kpt
    by_cases hk : f = k
    · subst hk
      rw [if_pos rfl]
      unfold kmk
      by_cases hh : h = f
      · rw [if_pos hh, if_pos hh]
      · rw [if_neg hh, if_neg hh, if_neg hh]
    · rw [if_neg hk]
      unfold kmk
      by_cases hh : h = k
      · rw [if_pos hh, if_neg (fun e => hk (e.symm.trans hh)), if_pos hh]
      · rw [if_neg hh, if_neg hh, ih]
theorem kval_enc (l : List (Fl × Int × Int)) (f : Fl) : kval (kget (l.map kenc) f) = [.int .i64 (kmk l f).1, .int .i64 (kmk l f).2] := by
  induction l with
  | nil => rfl
  | cons p l ih =>
    obtain ⟨k, x⟩ := p
    simp only [List.map_cons, kenc, kget, kmk]
    by_cases hh : f = k
    · rw [if_pos hh, if_pos hh]; rfl
    · rw [if_neg hh, if_neg hh]; exact ih
theorem kput_enc (l : List (Fl × Int × Int)) (f : Fl) (a b : Int) : kput (l.map kenc) f [.int .i64 a, .int .i64 b] = (kpt l f (a, b)).map kenc := by
  induction l with
  | nil => rfl
  | cons p l ih =>
    obtain ⟨k, x⟩ := p
    simp only [List.map_cons, kenc, kput, kpt]
    by_cases hh : f = k
    · rw [if_pos hh, if_pos hh]; rfl
    · rw [if_neg hh, if_neg hh, List.map_cons, ← ih]; rfl
section
variable {ops : Array Oper} {a : Act} {K : Act → World → Prop} {Q : Exit → Act → World → Prop} {B : Nat} {w0 w : World} {H HS R : List As}
variable {dst : Option Tmp} {ty : TypeId} {pos : String} {after : Array Edge} {gd : Option (Nat × Bool)} {i : Nat} {p : List (Nat × Nat)}
set_option maxRecDepth 100000 in
theorem t_kmk (HM : SL.Mod B w0 H w) {m x : Operand} {g : Nat} (f : Fl) {l : List (Fl × Int × Int)} (ho : ops.toList[i]? = some ⟨dst, .lookup 131 m x false, ty, pos, after, gd⟩) (hw : Region.wanted ⟨dst, .lookup 131 m x false, ty, pos, after, gd⟩ (yielded ops a.tmps) = true)
    (hm : Ev a m (.map (some g))) (hx : Ev a x f.val) (hs : Sub HS H) (hk : KM HS g (l.map kenc) R)
    (k : wpT Try.prog ops Q (SL.Mod B w0 HS) p (a.put dst (.agg #[.int .i64 (kmk l f).1, .int .i64 (kmk l f).2])) w) : wpT Try.prog ops Q (SL.Mod B w0 HS) ((i, 0) :: p) a w :=
  t_klook HM f ho hw hm hx hs hk (by rw [kval_enc]; exact k)
set_option maxRecDepth 100000 in
theorem ow_kpt (HM : SL.Mod B w0 H w) {m x y : Operand} {g : Nat} (f : Fl) (u v : Int) {l : List (Fl × Int × Int)} (hm : Ev a m (.map (some g))) (hx : Ev a x f.val) (hy : Ev a y (.agg #[.int .i64 u, .int .i64 v])) (hk : KM H g (l.map kenc) R)
    (k : ∀ w', SL.Mod B w0 (kmap g ((kpt l f (u, v)).map kenc) :: R) w' → K a w') : Oper.wp Try.prog ⟨none, .mapUpdate 131 m x y, ty, pos, after, gd⟩ a w K Q :=
  ow_kput HM f [.int .i64 u, .int .i64 v] hm hx hy hk (fun w' h => k w' (by rw [kput_enc] at h; exact h))
end
/-- What a sender keeps. -/
structure SS where
  (s ev nx : Int)
  q : List Rec
  rg : List Sn
  kn : List (Fl × Int × Int)
/-- It lies in memory, in parts. -/
abbrev sndL (g gm : Nat) (vQ vR : Value) (S : SS) : List As :=
  [cells g [.int .i64 S.s, .int .i64 S.ev, .int .i64 S.nx, vQ, vR, .map (some gm)] 134, row vQ 53 8 S.q.length (recs S.q), row vR 140 4 S.rg.length (sents S.s S.rg), kmap gm (S.kn.map kenc), SL.star (S.rg.map Sn.own)]
/-- It lies in memory. -/
def snd (g : Nat) (S : SS) : As where
  sat F w := ∃ gm vQ vR, Sat (sndL g gm vQ vR S) F w
  loc h hk := by
    obtain ⟨gm, vQ, vR, h⟩ := h
    exact ⟨gm, vQ, vR, Sat.loc h hk⟩
  up h hk := by
    obtain ⟨gm, vQ, vR, h⟩ := h
    exact ⟨gm, vQ, vR, Sat.up h hk⟩
section
variable {B : Nat} {w0 w : World} {H R : List As} {g : Nat} {S : SS}
theorem Mod.openSnd (h : SL.Mod B w0 (snd g S :: H) w) : ∃ gm AQ cQ AR cR, SL.Mod B w0 (cells g [.int .i64 S.s, .int .i64 S.ev, .int .i64 S.nx, .slice AQ S.q.length cQ, .slice AR S.rg.length cR, .map (some gm)] 134 :: row (.slice AQ S.q.length cQ) 53 8 S.q.length (recs S.q) :: row (.slice AR S.rg.length cR) 140 4 S.rg.length (sents S.s S.rg) :: kmap gm (S.kn.map kenc) :: SL.star (S.rg.map Sn.own) :: H) w := by
  obtain ⟨F1, h1, ⟨gm, vQ, vR, h2⟩, h3⟩ := h.sat
  have hm : SL.Mod B w0 (sndL g gm vQ vR S ++ H) w := ⟨h.below, h.low, (Sat.append h2 h3 (fun b hb hc => hc.2 hb)).up (fun b hb => hb.elim (h1 b) (fun hc => hc.1))⟩
  have hm2 : SL.Mod B w0 (cells g [.int .i64 S.s, .int .i64 S.ev, .int .i64 S.nx, vQ, vR, .map (some gm)] 134 :: row vQ 53 8 S.q.length (recs S.q) :: row vR 140 4 S.rg.length (sents S.s S.rg) :: kmap gm (S.kn.map kenc) :: SL.star (S.rg.map Sn.own) :: H) w := hm
  have hrq : SL.Mod B w0 (row vR 140 4 S.rg.length (sents S.s S.rg) :: H) w := hm2.sub
  have hqq : SL.Mod B w0 (row vQ 53 8 S.q.length (recs S.q) :: H) w := hm2.sub
  obtain ⟨AQ, cQ, rfl, _⟩ := row_slice (hqq.rowOwn vQ)
  obtain ⟨AR, cR, rfl, _⟩ := row_slice (hrq.rowOwn vR)
  exact ⟨gm, AQ, cQ, AR, cR, hm2⟩
theorem Mod.closeSnd {gm : Nat} {vQ vR : Value} (h : SL.Mod B w0 (cells g [.int .i64 S.s, .int .i64 S.ev, .int .i64 S.nx, vQ, vR, .map (some gm)] 134 :: row vQ 53 8 S.q.length (recs S.q) :: row vR 140 4 S.rg.length (sents S.s S.rg) :: kmap gm (S.kn.map kenc) :: SL.star (S.rg.map Sn.own) :: H) w) : SL.Mod B w0 (snd g S :: H) w := by
  have h1 : SL.Mod B w0 (sndL g gm vQ vR S ++ H) w := h
  obtain ⟨F1, h2, h3, h4⟩ := (SL.Mod.star h1).sat
  exact ⟨h.below, h.low, F1, h2, ⟨gm, vQ, vR, h3⟩, h4⟩
/-- The records of a batch that waits are read. -/
theorem star_reads {L : List Sn} (h : SL.Mod B w0 (SL.star (L.map Sn.own) :: H) w) {x : Sn} (hx : x ∈ L) : Reads w x.A (recs x.l) := by
  obtain ⟨F1, h2⟩ := h.headSat
  obtain ⟨F2, h3⟩ := sat_mem (List.mem_map_of_mem hx) h2
  exact h3.2
end
/-- May a sender be made of these? -/
def mayS (s ev : Int) : Bool := inB s 0 4611686018427387904 && inB ev 1 10000
def SS.new (s ev : Int) : SS := ⟨s, ev, 1, [], [], []⟩
set_option maxHeartbeats 2000000 in
set_option maxRecDepth 100000 in
theorem sndNew_no (s ev : Int) (h : mayS s ev = false) (w : World) : Calls Try.prog 30 #[.int .i64 s, .int .i64 ev] w fun e w' => e = .returned (.tuple #[.pointer none, .int .i64 1]) ∧ SL.Mod w.heap.size w [] w' := by
  have HM := Mod.start w
  have HO : Aside0 (¬ ((0 ≤ s ∧ s ≤ 4611686018427387904) ∧ (1 ≤ ev ∧ ev ≤ 10000))) := ⟨by
    rintro ⟨⟨h1, h2⟩, h3, h4⟩
    simp [mayS, inB, h1, h2, h3, h4] at h⟩
  clear h
  by_cases c0 : s < 0
  · have b0 : decide (s < 0) = true := decide_eq_true (by omega)
    clear c0
    go_enter Try.func30, Try.ntmps30
    go_wp2_with (first | go_step3 | ((with_reducible apply sl_want); exact rfl) | ((with_reducible apply sl_load HM); exact rfl; infer_instance; infer_instance; (try simp only [Act.put, List.setIfInBounds_toArray, List.set_cons_zero, List.set_cons_succ])) | ((with_reducible apply sl_store HM); exact rfl; (first | exact Ev.tmp rfl | exact Ev.const); infer_instance; infer_instance; infer_instance; clear HM; (try clear wq); intro wq HM; (try simp only [Act.put, List.setIfInBounds_toArray, List.set_cons_zero, List.set_cons_succ])) | ((with_reducible apply sl_loadR); exact rfl; assumption; (try simp only [Act.put, List.setIfInBounds_toArray, List.set_cons_zero, List.set_cons_succ])) | ((with_reducible apply sl_loadH HM); exact rfl; assumption; infer_instance; (try simp only [Act.put, List.setIfInBounds_toArray, List.set_cons_zero, List.set_cons_succ])) | ((with_reducible refine gate_dst (N := 24) rfl ?_); (with_reducible apply sl_box HM); (first | exact Ev.tmp rfl | exact Ev.const); exact rfl; clear HM; (try clear wq); intro g24 wq HM; (try simp only [Act.put, List.setIfInBounds_toArray, List.set_cons_zero, List.set_cons_succ])))
    exact sl_ret rfl (by simp) (vals_tmp rfl (vals_tmp rfl .nil)) ⟨rfl, HM.sub⟩
  by_cases c1 : 4611686018427387904 < s
  · have b1 : decide (4611686018427387904 < s) = true := decide_eq_true (by omega)
    have b0 : decide (s < 0) = false := decide_eq_false (by omega)
    clear c0 c1
    go_enter Try.func30, Try.ntmps30
    go_wp2_with (first | go_step3 | ((with_reducible apply sl_want); exact rfl) | ((with_reducible apply sl_load HM); exact rfl; infer_instance; infer_instance; (try simp only [Act.put, List.setIfInBounds_toArray, List.set_cons_zero, List.set_cons_succ])) | ((with_reducible apply sl_store HM); exact rfl; (first | exact Ev.tmp rfl | exact Ev.const); infer_instance; infer_instance; infer_instance; clear HM; (try clear wq); intro wq HM; (try simp only [Act.put, List.setIfInBounds_toArray, List.set_cons_zero, List.set_cons_succ])) | ((with_reducible apply sl_loadR); exact rfl; assumption; (try simp only [Act.put, List.setIfInBounds_toArray, List.set_cons_zero, List.set_cons_succ])) | ((with_reducible apply sl_loadH HM); exact rfl; assumption; infer_instance; (try simp only [Act.put, List.setIfInBounds_toArray, List.set_cons_zero, List.set_cons_succ])) | ((with_reducible refine gate_dst (N := 24) rfl ?_); (with_reducible apply sl_box HM); (first | exact Ev.tmp rfl | exact Ev.const); exact rfl; clear HM; (try clear wq); intro g24 wq HM; (try simp only [Act.put, List.setIfInBounds_toArray, List.set_cons_zero, List.set_cons_succ])))
    exact sl_ret rfl (by simp) (vals_tmp rfl (vals_tmp rfl .nil)) ⟨rfl, HM.sub⟩
  by_cases c2 : ev < 1
  · have b2 : decide (ev < 1) = true := decide_eq_true (by omega)
    have b0 : decide (s < 0) = false := decide_eq_false (by omega)
    have b1 : decide (4611686018427387904 < s) = false := decide_eq_false (by omega)
    clear c0 c1 c2
    go_enter Try.func30, Try.ntmps30
    go_wp2_with (first | go_step3 | ((with_reducible apply sl_want); exact rfl) | ((with_reducible apply sl_load HM); exact rfl; infer_instance; infer_instance; (try simp only [Act.put, List.setIfInBounds_toArray, List.set_cons_zero, List.set_cons_succ])) | ((with_reducible apply sl_store HM); exact rfl; (first | exact Ev.tmp rfl | exact Ev.const); infer_instance; infer_instance; infer_instance; clear HM; (try clear wq); intro wq HM; (try simp only [Act.put, List.setIfInBounds_toArray, List.set_cons_zero, List.set_cons_succ])) | ((with_reducible apply sl_loadR); exact rfl; assumption; (try simp only [Act.put, List.setIfInBounds_toArray, List.set_cons_zero, List.set_cons_succ])) | ((with_reducible apply sl_loadH HM); exact rfl; assumption; infer_instance; (try simp only [Act.put, List.setIfInBounds_toArray, List.set_cons_zero, List.set_cons_succ])) | ((with_reducible refine gate_dst (N := 24) rfl ?_); (with_reducible apply sl_box HM); (first | exact Ev.tmp rfl | exact Ev.const); exact rfl; clear HM; (try clear wq); intro g24 wq HM; (try simp only [Act.put, List.setIfInBounds_toArray, List.set_cons_zero, List.set_cons_succ])))
    exact sl_ret rfl (by simp) (vals_tmp rfl (vals_tmp rfl .nil)) ⟨rfl, HM.sub⟩
  by_cases c3 : 10000 < ev
  · have b3 : decide (10000 < ev) = true := decide_eq_true (by omega)
    have b0 : decide (s < 0) = false := decide_eq_false (by omega)
    have b1 : decide (4611686018427387904 < s) = false := decide_eq_false (by omega)
    have b2 : decide (ev < 1) = false := decide_eq_false (by omega)
    clear c0 c1 c2 c3
    go_enter Try.func30, Try.ntmps30
    go_wp2_with (first | go_step3 | ((with_reducible apply sl_want); exact rfl) | ((with_reducible apply sl_load HM); exact rfl; infer_instance; infer_instance; (try simp only [Act.put, List.setIfInBounds_toArray, List.set_cons_zero, List.set_cons_succ])) | ((with_reducible apply sl_store HM); exact rfl; (first | exact Ev.tmp rfl | exact Ev.const); infer_instance; infer_instance; infer_instance; clear HM; (try clear wq); intro wq HM; (try simp only [Act.put, List.setIfInBounds_toArray, List.set_cons_zero, List.set_cons_succ])) | ((with_reducible apply sl_loadR); exact rfl; assumption; (try simp only [Act.put, List.setIfInBounds_toArray, List.set_cons_zero, List.set_cons_succ])) | ((with_reducible apply sl_loadH HM); exact rfl; assumption; infer_instance; (try simp only [Act.put, List.setIfInBounds_toArray, List.set_cons_zero, List.set_cons_succ])) | ((with_reducible refine gate_dst (N := 24) rfl ?_); (with_reducible apply sl_box HM); (first | exact Ev.tmp rfl | exact Ev.const); exact rfl; clear HM; (try clear wq); intro g24 wq HM; (try simp only [Act.put, List.setIfInBounds_toArray, List.set_cons_zero, List.set_cons_succ])))
    exact sl_ret rfl (by simp) (vals_tmp rfl (vals_tmp rfl .nil)) ⟨rfl, HM.sub⟩
  exfalso; have := HO.out; omega
set_option maxHeartbeats 2000000 in
set_option maxRecDepth 100000 in
theorem sndNew_ok (s ev : Int) (h : mayS s ev = true) (w : World) : Calls Try.prog 30 #[.int .i64 s, .int .i64 ev] w fun e w' => ∃ g, e = .returned (.tuple #[.pointer (some ⟨g, 0, none⟩), .int .i64 0]) ∧ SL.Mod w.heap.size w [snd g (SS.new s ev)] w' := by
  have HM := Mod.start w
  obtain ⟨⟨h1, h2⟩, h3, h4⟩ : (0 ≤ s ∧ s ≤ 4611686018427387904) ∧ (1 ≤ ev ∧ ev ≤ 10000) := by simpa [mayS, inB, and_assoc] using h
  have b0 : decide (s < 0) = false := decide_eq_false (by omega); have b1 : decide (4611686018427387904 < s) = false := decide_eq_false (by omega); have b2 : decide (ev < 1) = false := decide_eq_false (by omega); have b3 : decide (10000 < ev) = false := decide_eq_false (by omega)
  clear h
  go_enter Try.func30, Try.ntmps30
  go_wp2_with (first | ((with_reducible refine gate_dst (N := 22) rfl ?_); (with_reducible apply sl_kmake HM); clear HM; (try clear wq); intro g22 wq HM; (try simp only [Act.put, List.setIfInBounds_toArray, List.set_cons_zero, List.set_cons_succ])) | (first | go_step3 | ((with_reducible apply sl_want); exact rfl) | ((with_reducible apply sl_load HM); exact rfl; infer_instance; infer_instance; (try simp only [Act.put, List.setIfInBounds_toArray, List.set_cons_zero, List.set_cons_succ])) | ((with_reducible apply sl_store HM); exact rfl; (first | exact Ev.tmp rfl | exact Ev.const); infer_instance; infer_instance; infer_instance; clear HM; (try clear wq); intro wq HM; (try simp only [Act.put, List.setIfInBounds_toArray, List.set_cons_zero, List.set_cons_succ])) | ((with_reducible apply sl_loadR); exact rfl; assumption; (try simp only [Act.put, List.setIfInBounds_toArray, List.set_cons_zero, List.set_cons_succ])) | ((with_reducible apply sl_loadH HM); exact rfl; assumption; infer_instance; (try simp only [Act.put, List.setIfInBounds_toArray, List.set_cons_zero, List.set_cons_succ])) | ((with_reducible refine gate_dst (N := 24) rfl ?_); (with_reducible apply sl_box HM); (first | exact Ev.tmp rfl | exact Ev.const); exact rfl; clear HM; (try clear wq); intro g24 wq HM; (try simp only [Act.put, List.setIfInBounds_toArray, List.set_cons_zero, List.set_cons_succ]))))
  refine sl_ret rfl (by simp) (vals_tmp rfl (vals_tmp rfl .nil)) ⟨g24, rfl, ?_⟩
  have HM1 : SL.Mod w.heap.size w (cells g24 [.int .i64 s, .int .i64 ev, .int .i64 1, .slice none 0 0, .slice none 0 0, .map (some g22)] 134 :: kmap g22 [] :: []) _ := HM
  have HM2 := ((HM1.nilRow 53 8).nilRow 140 4).starNil
  have HM3 : SL.Mod w.heap.size w [cells g24 [.int .i64 s, .int .i64 ev, .int .i64 1, .slice none 0 0, .slice none 0 0, .map (some g22)] 134, row (.slice none 0 0) 53 8 0 [], row (.slice none 0 0) 140 4 0 [], kmap g22 [], SL.star []] _ := HM2.sub
  exact Mod.closeSnd (S := SS.new s ev) (gm := g22) (vQ := .slice none 0 0) (vR := .slice none 0 0) HM3

set_option maxHeartbeats 2000000 in
set_option maxRecDepth 100000 in
theorem Session_calls (g : Nat) (S : SS) (B : Nat) (w0 w : World) (H : List As) (HM : SL.Mod B w0 (snd g S :: H) w) : Calls Try.prog 57 #[.pointer (some ⟨g, 0, none⟩)] w fun e w' => e = .returned (.int .i64 S.s) ∧ SL.Mod B w0 (snd g S :: H) w' := by
  obtain ⟨gm, AQ, cQ, AR, cR, HM1⟩ := Mod.openSnd HM
  clear HM
  have HM := HM1
  clear HM1
  go_enter Try.func57, Try.ntmps57
  go_wp2_with (first | go_step3 | ((with_reducible apply sl_want); exact rfl) | ((with_reducible apply sl_load HM); exact rfl; infer_instance; infer_instance; (try simp only [Act.put, List.setIfInBounds_toArray, List.set_cons_zero, List.set_cons_succ])) | ((with_reducible apply sl_store HM); exact rfl; (first | exact Ev.tmp rfl | exact Ev.const); infer_instance; infer_instance; infer_instance; clear HM; (try clear wq); intro wq HM; (try simp only [Act.put, List.setIfInBounds_toArray, List.set_cons_zero, List.set_cons_succ])) | ((with_reducible apply sl_loadR); exact rfl; assumption; (try simp only [Act.put, List.setIfInBounds_toArray, List.set_cons_zero, List.set_cons_succ])) | ((with_reducible apply sl_loadH HM); exact rfl; assumption; infer_instance; (try simp only [Act.put, List.setIfInBounds_toArray, List.set_cons_zero, List.set_cons_succ])))
  exact sl_ret1 rfl (vals_tmp rfl .nil) ⟨rfl, Mod.closeSnd HM⟩
set_option maxHeartbeats 2000000 in
set_option maxRecDepth 100000 in
theorem Waiting_calls (g : Nat) (S : SS) (B : Nat) (w0 w : World) (H : List As) (HM : SL.Mod B w0 (snd g S :: H) w) : Calls Try.prog 37 #[.pointer (some ⟨g, 0, none⟩)] w fun e w' => e = .returned (.tuple #[.int .i64 S.q.length, .int .i64 S.rg.length]) ∧ SL.Mod B w0 (snd g S :: H) w' := by
  obtain ⟨gm, AQ, cQ, AR, cR, HM1⟩ := Mod.openSnd HM
  clear HM
  have HM := HM1
  clear HM1
  go_enter Try.func37, Try.ntmps37
  go_wp2_with (first | go_step3 | ((with_reducible apply sl_want); exact rfl) | ((with_reducible apply sl_load HM); exact rfl; infer_instance; infer_instance; (try simp only [Act.put, List.setIfInBounds_toArray, List.set_cons_zero, List.set_cons_succ])) | ((with_reducible apply sl_store HM); exact rfl; (first | exact Ev.tmp rfl | exact Ev.const); infer_instance; infer_instance; infer_instance; clear HM; (try clear wq); intro wq HM; (try simp only [Act.put, List.setIfInBounds_toArray, List.set_cons_zero, List.set_cons_succ])) | ((with_reducible apply sl_loadR); exact rfl; assumption; (try simp only [Act.put, List.setIfInBounds_toArray, List.set_cons_zero, List.set_cons_succ])) | ((with_reducible apply sl_loadH HM); exact rfl; assumption; infer_instance; (try simp only [Act.put, List.setIfInBounds_toArray, List.set_cons_zero, List.set_cons_succ])))
  refine wp_drawnS HM [] [(0, 1), (1, 1), (2, 1), (3, 0), (4, 1), (5, 1), (6, 1), (7, 1), (8, 0), (9, 1), (10, 1), (11, 1)] (by kernel_rfl) (by kernel_rfl) (by kernel_rfl) (by kernel_rfl) (fun _ _ d _ _ h => by cases d <;> exact h) ?_; clear HM; (try clear wq); intro wq HM
  repeat (first | ((with_reducible apply t_move); exact rfl; exact rfl; (first | exact Ev.tmp rfl | exact Ev.const); (try simp only [Act.put, List.setIfInBounds_toArray, List.set_cons_zero, List.set_cons_succ])) | ((with_reducible apply t_assign); exact rfl; exact rfl; (first | exact Ev.tmp rfl | exact Ev.const); (try simp only [Act.put, List.setIfInBounds_toArray, List.set_cons_zero, List.set_cons_succ])) | ((with_reducible apply t_load HM); exact rfl; exact rfl; exact rfl; infer_instance; infer_instance; infer_instance; (try simp only [Act.put, List.setIfInBounds_toArray, List.set_cons_zero, List.set_cons_succ])) | ((with_reducible apply t_loadH HM); exact rfl; exact rfl; exact rfl; assumption; infer_instance; infer_instance; (try simp only [Act.put, List.setIfInBounds_toArray, List.set_cons_zero, List.set_cons_succ])) | ((with_reducible apply t_skip); exact rfl; exact rfl; (try simp only [Act.put, List.setIfInBounds_toArray, List.set_cons_zero, List.set_cons_succ])) | ((with_reducible apply t_skip0 HM); exact rfl; exact rfl; infer_instance; (try simp only [Act.put, List.setIfInBounds_toArray, List.set_cons_zero, List.set_cons_succ])) | ((with_reducible apply t_skip2 HM); exact rfl; exact rfl; infer_instance; (try simp only [Act.put, List.setIfInBounds_toArray, List.set_cons_zero, List.set_cons_succ])) | ((with_reducible apply t_pure); exact rfl; exact rfl; (focus (intro wv; go_simp; (try (go_ints; (try go_simp))); (first | done | rfl | (rw [if_pos (by omega)]; done)))); (try simp only [Act.put, List.setIfInBounds_toArray, List.set_cons_zero, List.set_cons_succ])))
  refine t_nil ?_
  go_wp2_with (fail)
  exact sl_ret rfl (by simp) (vals_tmp rfl (vals_tmp rfl .nil)) ⟨rfl, Mod.closeSnd HM⟩

instance recs_ones (l : List Rec) : Ones (recs l) := ⟨by
  intro u hu
  obtain ⟨r, _, hr⟩ := List.mem_flatMap.1 hu
  simp only [Rec.cells, List.mem_cons, List.not_mem_nil, or_false] at hr
  rcases hr with rfl | rfl | rfl | rfl | rfl | rfl | rfl | rfl <;> rfl⟩
set_option maxRecDepth 100000 in
theorem eqlnil (A : Option Addr) (n c : Nat) (w : World) : (binOp .eql 43 (.slice A n c) (.slice none 0 0)).run Try.prog w = .ok (.bool A.isNone) w := by
  simp only [binOp]
  simp [run_equal_slice_nil w 43 53 A n c Try.underlying43]
section
attribute [local go_sem] eqlnil
set_option maxHeartbeats 2000000 in
set_option maxRecDepth 100000 in
theorem Clone_calls (A : Option Addr) (c n : Nat) (l : List Rec) (hn : l.length = n) (hb : n * 80 ≤ 140737488355328) (B : Nat) (w0 w : World) (H : List As) (hr : ∀ w, SL.Mod B w0 H w → Reads w A (recs l)) (HM : SL.Mod B w0 H w) :
    Calls Try.prog 71 #[.slice A n c] w fun e w' => ∃ A' c', e = .returned (.slice A' n c') ∧ SL.Mod B w0 (row (.slice A' n c') 53 8 n (recs l) :: H) w' := by
  have HR := Aside0.mk hr
  have HN := Aside0.mk hn
  clear hr hn
  cases A with
  | none =>
    have e0 : l = [] := by
      cases l with
      | nil => rfl
      | cons x l => obtain ⟨ad, h, _⟩ := HR.out _ HM 0 _ rfl; cases h
    subst e0
    have e1 : n = 0 := HN.out.symm
    subst e1
    go_enter Try.func71, Try.ntmps71
    go_wp2_with (first | go_step3 | ((with_reducible apply sl_want); exact rfl) | ((with_reducible apply sl_load HM); exact rfl; infer_instance; infer_instance; (try simp only [Act.put, List.setIfInBounds_toArray, List.set_cons_zero, List.set_cons_succ])) | ((with_reducible apply sl_store HM); exact rfl; (first | exact Ev.tmp rfl | exact Ev.const); infer_instance; infer_instance; infer_instance; clear HM; (try clear wq); intro wq HM; (try simp only [Act.put, List.setIfInBounds_toArray, List.set_cons_zero, List.set_cons_succ])) | ((with_reducible apply sl_loadR); exact rfl; assumption; (try simp only [Act.put, List.setIfInBounds_toArray, List.set_cons_zero, List.set_cons_succ])) | ((with_reducible apply sl_loadH HM); exact rfl; assumption; infer_instance; (try simp only [Act.put, List.setIfInBounds_toArray, List.set_cons_zero, List.set_cons_succ])) | ((with_reducible refine gate_dst (N := 5) rfl ?_); (with_reducible apply sl_lit HM); (focus (go_simp; (try rfl); done)); clear HM; (try clear wq); intro g5 wq HM; (try simp only [Act.put, List.setIfInBounds_toArray, List.set_cons_zero, List.set_cons_succ])) | ((with_reducible refine gate_dst (N := 7) rfl ?_); (with_reducible apply sl_append_lit HM); (first | exact Ev.tmp rfl | exact Ev.const); infer_instance; (first | exact Ev.tmp rfl | exact Ev.const); infer_instance; infer_instance; exact rfl; infer_instance; (first | omega | (simp only [List.length_append, List.length_cons, List.length_nil] at *; omega)); clear HM; (try clear wq); intro v7 wq HM; (try simp only [Act.put, List.setIfInBounds_toArray, List.set_cons_zero, List.set_cons_succ]); haveI := HM.rowOne v7))
    exact sl_ret1 rfl (vals_tmp rfl .nil) ⟨none, 0, rfl, HM.nilRow 53 8⟩
  | some ad =>
    go_enter Try.func71, Try.ntmps71
    go_wp2_with first | ((with_reducible refine gate_dst (N := 7) rfl ?_); have HM1 := HM.litRow g5 8 0 rfl (by decide); clear HM; have HM := HM1; clear HM1; (with_reducible apply sl_append_reads HM); (first | exact Ev.tmp rfl | exact Ev.const); infer_instance; (first | exact Ev.tmp rfl | exact Ev.const); infer_instance; exact (HR.out _ HM.sub); exact (by rw [flat_len rec_len, HN.out]); infer_instance; (first | omega | (simp only [List.length_append, List.length_cons, List.length_nil] at *; omega)); clear HM; (try clear wq); intro v7 wq HM; (try simp only [Act.put, List.setIfInBounds_toArray, List.set_cons_zero, List.set_cons_succ]); haveI := HM.rowOne v7) | (first | go_step3 | ((with_reducible apply sl_want); exact rfl) | ((with_reducible apply sl_load HM); exact rfl; infer_instance; infer_instance; (try simp only [Act.put, List.setIfInBounds_toArray, List.set_cons_zero, List.set_cons_succ])) | ((with_reducible apply sl_store HM); exact rfl; (first | exact Ev.tmp rfl | exact Ev.const); infer_instance; infer_instance; infer_instance; clear HM; (try clear wq); intro wq HM; (try simp only [Act.put, List.setIfInBounds_toArray, List.set_cons_zero, List.set_cons_succ])) | ((with_reducible apply sl_loadR); exact rfl; assumption; (try simp only [Act.put, List.setIfInBounds_toArray, List.set_cons_zero, List.set_cons_succ])) | ((with_reducible apply sl_loadH HM); exact rfl; assumption; infer_instance; (try simp only [Act.put, List.setIfInBounds_toArray, List.set_cons_zero, List.set_cons_succ])) | ((with_reducible refine gate_dst (N := 5) rfl ?_); (with_reducible apply sl_lit HM); (focus (go_simp; (try rfl); done)); clear HM; (try clear wq); intro g5 wq HM; (try simp only [Act.put, List.setIfInBounds_toArray, List.set_cons_zero, List.set_cons_succ])) | ((with_reducible refine gate_dst (N := 7) rfl ?_); (with_reducible apply sl_append_lit HM); (first | exact Ev.tmp rfl | exact Ev.const); infer_instance; (first | exact Ev.tmp rfl | exact Ev.const); infer_instance; infer_instance; exact rfl; infer_instance; (first | omega | (simp only [List.length_append, List.length_cons, List.length_nil] at *; omega)); clear HM; (try clear wq); intro v7 wq HM; (try simp only [Act.put, List.setIfInBounds_toArray, List.set_cons_zero, List.set_cons_succ]); haveI := HM.rowOne v7))
    obtain ⟨A7, c7, rfl, _⟩ := row_slice (HM.rowOwn v7)
    rw [List.nil_append, Nat.zero_add] at HM
    refine sl_ret1 rfl (vals_tmp rfl .nil) ⟨A7, c7, ?_, HM⟩
    rw [Nat.zero_add]
end
set_option maxHeartbeats 2000000 in
set_option maxRecDepth 100000 in
theorem copied_calls (s m : Int) (A : Option Addr) (c n : Nat) (l : List Rec) (hn : l.length = n) (hb : n * 80 ≤ 140737488355328) (B : Nat) (w0 w : World) (H : List As) (hr : ∀ w, SL.Mod B w0 H w → Reads w A (recs l)) (HM : SL.Mod B w0 H w) :
    Calls Try.prog 69 #[.agg #[.int .i64 s, .int .i64 m, .slice A n c]] w fun e w' => ∃ A' c', e = .returned (.agg #[.int .i64 s, .int .i64 m, .slice A' n c']) ∧ SL.Mod B w0 (row (.slice A' n c') 53 8 n (recs l) :: H) w' := by
  have HR := Aside0.mk hr
  clear hr
  go_enter Try.func69, Try.ntmps69
  go_wp2_with first | (go_at_call 71; refine (Clone_calls A c n l hn hb _ _ _ _ (fun w h => HR.out w h.sub) HM).mono ?_; rintro e wq ⟨A5, c5, rfl, HM1⟩; clear HM; have HM := HM1; clear HM1) | (first | go_step3 | ((with_reducible apply sl_want); exact rfl) | ((with_reducible apply sl_load HM); exact rfl; infer_instance; infer_instance; (try simp only [Act.put, List.setIfInBounds_toArray, List.set_cons_zero, List.set_cons_succ])) | ((with_reducible apply sl_store HM); exact rfl; (first | exact Ev.tmp rfl | exact Ev.const); infer_instance; infer_instance; infer_instance; clear HM; (try clear wq); intro wq HM; (try simp only [Act.put, List.setIfInBounds_toArray, List.set_cons_zero, List.set_cons_succ])) | ((with_reducible apply sl_loadR); exact rfl; assumption; (try simp only [Act.put, List.setIfInBounds_toArray, List.set_cons_zero, List.set_cons_succ])) | ((with_reducible apply sl_loadH HM); exact rfl; assumption; infer_instance; (try simp only [Act.put, List.setIfInBounds_toArray, List.set_cons_zero, List.set_cons_succ])) | ((with_reducible refine gate_dst (N := 1) rfl ?_); (with_reducible apply sl_box HM); (first | exact Ev.tmp rfl | exact Ev.const); exact rfl; clear HM; (try clear wq); intro g1 wq HM; (try simp only [Act.put, List.setIfInBounds_toArray, List.set_cons_zero, List.set_cons_succ])) | ((with_reducible refine gate_dst (N := 2) rfl ?_); (with_reducible apply sl_alloc HM); infer_instance; clear HM; (try clear wq); intro g2 wq HM; (try simp only [Act.put, List.setIfInBounds_toArray, List.set_cons_zero, List.set_cons_succ])))
  exact sl_ret1 rfl (vals_cell HM rfl inferInstance inferInstance rfl .nil) ⟨A5, c5, rfl, HM.sub⟩
end Go.Proofs.Ytghfoooldcbdnaa
