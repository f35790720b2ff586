/-
  THINGS THAT ARE READ AND NEVER WRITTEN ANY MORE, of whatever number, in one foot; the document's sender lies so.
-/
import Derived.Test.YtghfoooldcbdnaaSim15
import Derived.Test.YtghfoooldcbdnaaBnd2
import Derived.Test.YtghfoooldcbdnaaSmall14
import Derived.Test.YtghfoooldcbdnaaRefR
set_option linter.unusedVariables false
set_option linter.unusedSimpArgs false
namespace Go.Proofs.Ytghfoooldcbdnaa.SL
open Go.RowKit Go.Proofs.YtghfoooldcbdnaaW.PrintWords
/-- Read, no more. -/
def frz (L : List (Option Addr × List Value)) : As where
  sat F w := ∀ p ∈ L, (seen p.1 p.2).sat F w
  loc h hk := fun p hp => (seen p.1 p.2).loc (h p hp) hk
  up h hk := fun p hp => (seen p.1 p.2).up (h p hp) hk
section
variable {B : Nat} {w0 w : World} {H : List As} {L L' : List (Option Addr × List Value)} {A : Option Addr} {cs : List Value}
theorem Mod.frzNil (h : Mod B w0 H w) : Mod B w0 (frz [] :: H) w :=
  ⟨h.below, h.low, fun _ => False, fun _ hb => hb.elim, (fun p hp => (by cases hp)), h.sat.up (fun b hb => ⟨hb, fun hc => hc⟩)⟩
theorem Mod.frzAdd (h : Mod B w0 (seen A cs :: frz L :: H) w) : Mod B w0 (frz ((A, cs) :: L) :: H) w := by
  obtain ⟨F1, h1, h2, F2, h3, h4, h5⟩ := h.sat
  refine ⟨h.below, h.low, fun b => F1 b ∨ F2 b, fun b hb => hb.elim (h1 b) (fun hc => (h3 b hc).1), fun p hp => ?_, h5.up (fun b hb => ⟨hb.1.1, fun hc => hc.elim hb.1.2 hb.2⟩)⟩
  rcases List.mem_cons.1 hp with rfl | hp
  · exact (seen A cs).up h2 (fun b hb => .inl hb)
  · exact (seen p.1 p.2).up (h4 p hp) (fun b hb => .inr hb)
theorem Mod.frzRow {n c m : Nat} {e : TypeId} {sz : Nat} (h : Mod B w0 (row (.slice A m c) e sz n cs :: frz L :: H) w) : Mod B w0 (frz ((A, cs) :: L) :: H) w := Mod.frzAdd (Mod.rowSeen h)
theorem Mod.frzSub (h : Mod B w0 (frz L :: H) w) (hs : ∀ p ∈ L', p ∈ L) : Mod B w0 (frz L' :: H) w := by
  obtain ⟨F1, h1, h2, h3⟩ := h.sat
  exact ⟨h.below, h.low, F1, h1, fun p hp => h2 p (hs p hp), h3⟩
theorem frz_reads (h : Mod B w0 (frz L :: H) w) (hp : (A, cs) ∈ L) : Reads w A cs := by
  obtain ⟨F1, h1, h2, h3⟩ := h.sat
  exact (h2 _ hp).2
/-- Whatever hangs on what is there. -/
theorem Mod.frzMore (h : Mod B w0 (frz L :: H) w) {A' : Option Addr} {cs' : List Value} (hp : (A, cs) ∈ L) (hb : ∀ ad', A' = some ad' → ∃ ad, A = some ad ∧ ad'.block = ad.block) (hr : ∀ w, Reads w A cs → Reads w A' cs') : Mod B w0 (frz ((A', cs') :: L) :: H) w := by
  obtain ⟨F1, h1, h2, h3⟩ := h.sat
  refine ⟨h.below, h.low, F1, h1, fun p hq => ?_, h3⟩
  rcases List.mem_cons.1 hq with rfl | hq
  · refine ⟨fun ad' e => ?_, hr w (h2 _ hp).2⟩
    obtain ⟨ad, e1, e2⟩ := hb ad' e
    rw [e2]
    exact (h2 _ hp).1 ad e1
  · exact h2 p hq
theorem add_block (ad : Addr) (n : Nat) : (ad.add n).block = ad.block := by unfold Addr.add; split <;> rfl
theorem Mod.frzTake (h : Mod B w0 (frz L :: H) w) (hp : (A, cs) ∈ L) (n : Nat) : Mod B w0 (frz ((A, cs.take n) :: L) :: H) w :=
  h.frzMore hp (fun ad' e => ⟨ad', e, rfl⟩) (fun w hr => hr.take n)
theorem Mod.frzDrop (h : Mod B w0 (frz L :: H) w) (hp : (A, cs) ∈ L) (l c sz : Nat) (hc : cs.length ≤ c * sz) : Mod B w0 (frz ((subA A l c sz, cs.drop (l * sz)) :: L) :: H) w :=
  h.frzMore hp (fun ad' e => by
    unfold subA at e
    split at e
    · exact ⟨ad', e, rfl⟩
    · obtain ⟨ad, e1, e2⟩ := Option.map_eq_some_iff.1 e
      exact ⟨ad, e1, by rw [← e2, add_block]⟩) (fun w hr => hr.drop l c sz hc)
theorem Mod.frzNone (h : Mod B w0 (frz L :: H) w) : Mod B w0 (frz ((none, []) :: L) :: H) w := by
  obtain ⟨F1, h1, h2, h3⟩ := h.sat
  refine ⟨h.below, h.low, F1, h1, fun p hq => ?_, h3⟩
  rcases List.mem_cons.1 hq with rfl | hq
  · exact ⟨fun ad e => (by cases e), Reads.nil _ _⟩
  · exact h2 p hq
end
end Go.Proofs.Ytghfoooldcbdnaa.SL
namespace Go.Proofs.Ytghfoooldcbdnaa
open Go.RowKit Go.Proofs.Ytghfoooldcbdnaa.SL Go.Proofs.YtghfoooldcbdnaaW.PrintWords
/-- A batch that was answered, of the document's sender. -/
structure Td where
  n : Int
  l : List Rec
  A : Option Addr
  c : Nat
  f : Int
abbrev Td.cells (s : Int) (x : Td) : List Value := [.int .i64 s, .int .i64 x.n, .slice x.A x.l.length x.c, .int .u64 x.f]
abbrev tds (s : Int) (l : List Td) : List Value := l.flatMap (Td.cells s)
theorem td_len (s : Int) (x : Td) : (x.cells s).length = 4 := rfl
def Td.v (x : Td) : Int × List Rec × Int := (x.n, x.l, x.f)
/-- The document's sender, and where it lies. -/
structure RV where
  (s ev nx : Int)
  q : List Rec
  AQ : Option Addr
  cQ : Nat
  rg : List Sn
  AR : Option Addr
  cR : Nat
  td : List Td
  AT : Option Addr
  cT : Nat
abbrev RV.cells (R : RV) : List Value := [.int .i64 R.s, .int .i64 R.ev, .int .i64 R.nx, .slice R.AQ R.q.length R.cQ, .slice R.AR R.rg.length R.cR, .slice R.AT R.td.length R.cT]
def RV.p (R : RV) : RP := ⟨R.s, R.ev, R.nx, R.q, R.rg.map Sn.v, R.td.map Td.v⟩
def itR (l : List Sn) : List (Option Addr × List Value) := l.map (fun x => (x.A, recs x.l))
def itT (l : List Td) : List (Option Addr × List Value) := l.map (fun x => (x.A, recs x.l))
def itB (l : List Bt) : List (Option Addr × List Value) := l.map (fun x => (x.A, recs x.l))
def RV.items (R : RV) : List (Option Addr × List Value) := (R.AQ, recs R.q) :: (R.AR, sents R.s R.rg) :: (R.AT, tds R.s R.td) :: (itR R.rg ++ itT R.td)
/-- Small enough. -/
structure RV.Ok (R : RV) : Prop where
  q : R.q.length ≤ 256
  qc : R.q.length ≤ R.cQ
  rg : R.rg.length ≤ 1000
  td : R.td.length ≤ 100000
  n : ∀ x ∈ R.rg, 0 ≤ x.n ∧ x.n ≤ 1000000
  nx : 0 ≤ R.nx ∧ R.nx ≤ 1000000
  ev : 0 ≤ R.ev ∧ R.ev ≤ 10000
  fits : ∀ r ∈ R.q, r.ok = true
  xl : ∀ x ∈ R.rg, x.l.length ≤ 64
  tl : ∀ x ∈ R.td, x.l.length ≤ 64
section
variable {B : Nat} {w0 w : World} {H : List As} {R : RV}
theorem rv_q (h : SL.Mod B w0 (frz R.items :: H) w) : Reads w R.AQ (recs R.q) := frz_reads h (by simp [RV.items])
theorem rv_rg (h : SL.Mod B w0 (frz R.items :: H) w) : Reads w R.AR (sents R.s R.rg) := frz_reads h (by simp [RV.items])
theorem rv_td (h : SL.Mod B w0 (frz R.items :: H) w) : Reads w R.AT (tds R.s R.td) := frz_reads h (by simp [RV.items])
theorem rv_x (h : SL.Mod B w0 (frz R.items :: H) w) {x : Sn} (hx : x ∈ R.rg) : Reads w x.A (recs x.l) := frz_reads h (by
  simp only [RV.items, itR, itT, List.mem_cons, List.mem_append, List.mem_map]
  exact .inr (.inr (.inr (.inl ⟨x, hx, rfl⟩))))
theorem rv_t (h : SL.Mod B w0 (frz R.items :: H) w) {x : Td} (hx : x ∈ R.td) : Reads w x.A (recs x.l) := frz_reads h (by
  simp only [RV.items, itR, itT, List.mem_cons, List.mem_append, List.mem_map]
  exact .inr (.inr (.inr (.inr ⟨x, hx, rfl⟩))))
end
def RV.new (s ev : Int) : RV := ⟨s, ev, 1, [], none, 0, [], none, 0, [], none, 0⟩
theorem RV.new_p (s ev : Int) : (RV.new s ev).p = RP.new s ev := rfl
theorem Mod.rvNew {B : Nat} {w0 w : World} {H : List As} (h : SL.Mod B w0 H w) (s ev : Int) : SL.Mod B w0 (frz (RV.new s ev).items :: H) w := (h.frzNil.frzNone).frzSub (fun p hp => by
  simp only [RV.new, RV.items, itR, itT, List.map_nil, List.append_nil, List.mem_cons, List.not_mem_nil, or_false] at hp ⊢
  rcases hp with rfl | rfl | rfl <;> rfl)
set_option maxHeartbeats 2000000 in
set_option maxRecDepth 100000 in
theorem rNew_ok (s ev : Int) (h : mayS s ev = true) (B : Nat) (w0 w : World) (H : List As) (HM : SL.Mod B w0 H w) : Calls Try.prog 52 #[.int .i64 s, .int .i64 ev] w fun e w' => e = .returned (.tuple #[.agg (RV.new s ev).cells.toArray, .bool true]) ∧ SL.Mod B w0 H w' := by
  obtain ⟨⟨h1, h2⟩, h3, h4⟩ : (0 ≤ s ∧ s ≤ 4611686018427387904) ∧ (1 ≤ ev ∧ ev ≤ 10000) := by simpa [mayS, inB, and_assoc] using h
  have b0 : decide (s < 0) = false := decide_eq_false (by omega); have b1 : decide (4611686018427387904 < s) = false := decide_eq_false (by omega); have b2 : decide (ev < 1) = false := decide_eq_false (by omega); have b3 : decide (10000 < ev) = false := decide_eq_false (by omega)
  clear h
  go_enter Try.func52, Try.ntmps52
  go_wp2_with (first | go_step3 | ((with_reducible apply sl_want); exact rfl) | ((with_reducible apply sl_load HM); exact rfl; infer_instance; infer_instance; (try simp only [Act.put, List.setIfInBounds_toArray, List.set_cons_zero, List.set_cons_succ])) | ((with_reducible apply sl_store HM); exact rfl; (first | exact Ev.tmp rfl | exact Ev.const); infer_instance; infer_instance; infer_instance; clear HM; (try clear wq); intro wq HM; (try simp only [Act.put, List.setIfInBounds_toArray, List.set_cons_zero, List.set_cons_succ])) | ((with_reducible apply sl_loadR); exact rfl; assumption; (try simp only [Act.put, List.setIfInBounds_toArray, List.set_cons_zero, List.set_cons_succ])) | ((with_reducible apply sl_loadH HM); exact rfl; assumption; infer_instance; (try simp only [Act.put, List.setIfInBounds_toArray, List.set_cons_zero, List.set_cons_succ])) | ((with_reducible refine gate_dst (N := 4) rfl ?_); (with_reducible apply sl_alloc HM); infer_instance; clear HM; (try clear wq); intro g4 wq HM; (try simp only [Act.put, List.setIfInBounds_toArray, List.set_cons_zero, List.set_cons_succ])))
  exact sl_ret rfl (by simp) (vals_cell HM rfl inferInstance inferInstance rfl (vals_tmp rfl .nil)) ⟨rfl, HM.sub⟩
set_option maxHeartbeats 2000000 in
set_option maxRecDepth 100000 in
theorem rNew_no (s ev : Int) (h : mayS s ev = false) (B : Nat) (w0 w : World) (H : List As) (HM : SL.Mod B w0 H w) : Calls Try.prog 52 #[.int .i64 s, .int .i64 ev] w fun e w' => ∃ v, e = .returned (.tuple #[v, .bool false]) ∧ SL.Mod B w0 H w' := by
  have HO : Aside0 (¬ ((0 ≤ s ∧ s ≤ 4611686018427387904) ∧ (1 ≤ ev ∧ ev ≤ 10000))) := ⟨by
    rintro ⟨⟨h1, h2⟩, h3, h4⟩
    simp [mayS, inB, h1, h2, h3, h4] at h⟩
  clear h
  by_cases c0 : s < 0
  · have b0 : decide (s < 0) = true := decide_eq_true (by omega)
    clear c0
    go_enter Try.func52, Try.ntmps52
    go_wp2_with (first | go_step3 | ((with_reducible apply sl_want); exact rfl) | ((with_reducible apply sl_load HM); exact rfl; infer_instance; infer_instance; (try simp only [Act.put, List.setIfInBounds_toArray, List.set_cons_zero, List.set_cons_succ])) | ((with_reducible apply sl_store HM); exact rfl; (first | exact Ev.tmp rfl | exact Ev.const); infer_instance; infer_instance; infer_instance; clear HM; (try clear wq); intro wq HM; (try simp only [Act.put, List.setIfInBounds_toArray, List.set_cons_zero, List.set_cons_succ])) | ((with_reducible apply sl_loadR); exact rfl; assumption; (try simp only [Act.put, List.setIfInBounds_toArray, List.set_cons_zero, List.set_cons_succ])) | ((with_reducible apply sl_loadH HM); exact rfl; assumption; infer_instance; (try simp only [Act.put, List.setIfInBounds_toArray, List.set_cons_zero, List.set_cons_succ])) | ((with_reducible refine gate_dst (N := 4) rfl ?_); (with_reducible apply sl_alloc HM); infer_instance; clear HM; (try clear wq); intro g4 wq HM; (try simp only [Act.put, List.setIfInBounds_toArray, List.set_cons_zero, List.set_cons_succ])))
    exact sl_ret rfl (by simp) (vals_cell HM rfl inferInstance inferInstance rfl (vals_tmp rfl .nil)) ⟨_, rfl, HM.sub⟩
  by_cases c1 : 4611686018427387904 < s
  · have b1 : decide (4611686018427387904 < s) = true := decide_eq_true (by omega)
    have b0 : decide (s < 0) = false := decide_eq_false (by omega)
    clear c0 c1
    go_enter Try.func52, Try.ntmps52
    go_wp2_with (first | go_step3 | ((with_reducible apply sl_want); exact rfl) | ((with_reducible apply sl_load HM); exact rfl; infer_instance; infer_instance; (try simp only [Act.put, List.setIfInBounds_toArray, List.set_cons_zero, List.set_cons_succ])) | ((with_reducible apply sl_store HM); exact rfl; (first | exact Ev.tmp rfl | exact Ev.const); infer_instance; infer_instance; infer_instance; clear HM; (try clear wq); intro wq HM; (try simp only [Act.put, List.setIfInBounds_toArray, List.set_cons_zero, List.set_cons_succ])) | ((with_reducible apply sl_loadR); exact rfl; assumption; (try simp only [Act.put, List.setIfInBounds_toArray, List.set_cons_zero, List.set_cons_succ])) | ((with_reducible apply sl_loadH HM); exact rfl; assumption; infer_instance; (try simp only [Act.put, List.setIfInBounds_toArray, List.set_cons_zero, List.set_cons_succ])) | ((with_reducible refine gate_dst (N := 4) rfl ?_); (with_reducible apply sl_alloc HM); infer_instance; clear HM; (try clear wq); intro g4 wq HM; (try simp only [Act.put, List.setIfInBounds_toArray, List.set_cons_zero, List.set_cons_succ])))
    exact sl_ret rfl (by simp) (vals_cell HM rfl inferInstance inferInstance rfl (vals_tmp rfl .nil)) ⟨_, rfl, HM.sub⟩
  by_cases c2 : ev < 1
  · have b2 : decide (ev < 1) = true := decide_eq_true (by omega)
    have b0 : decide (s < 0) = false := decide_eq_false (by omega)
    have b1 : decide (4611686018427387904 < s) = false := decide_eq_false (by omega)
    clear c0 c1 c2
    go_enter Try.func52, Try.ntmps52
    go_wp2_with (first | go_step3 | ((with_reducible apply sl_want); exact rfl) | ((with_reducible apply sl_load HM); exact rfl; infer_instance; infer_instance; (try simp only [Act.put, List.setIfInBounds_toArray, List.set_cons_zero, List.set_cons_succ])) | ((with_reducible apply sl_store HM); exact rfl; (first | exact Ev.tmp rfl | exact Ev.const); infer_instance; infer_instance; infer_instance; clear HM; (try clear wq); intro wq HM; (try simp only [Act.put, List.setIfInBounds_toArray, List.set_cons_zero, List.set_cons_succ])) | ((with_reducible apply sl_loadR); exact rfl; assumption; (try simp only [Act.put, List.setIfInBounds_toArray, List.set_cons_zero, List.set_cons_succ])) | ((with_reducible apply sl_loadH HM); exact rfl; assumption; infer_instance; (try simp only [Act.put, List.setIfInBounds_toArray, List.set_cons_zero, List.set_cons_succ])) | ((with_reducible refine gate_dst (N := 4) rfl ?_); (with_reducible apply sl_alloc HM); infer_instance; clear HM; (try clear wq); intro g4 wq HM; (try simp only [Act.put, List.setIfInBounds_toArray, List.set_cons_zero, List.set_cons_succ])))
    exact sl_ret rfl (by simp) (vals_cell HM rfl inferInstance inferInstance rfl (vals_tmp rfl .nil)) ⟨_, rfl, HM.sub⟩
  by_cases c3 : 10000 < ev
  · have b3 : decide (10000 < ev) = true := decide_eq_true (by omega)
    have b0 : decide (s < 0) = false := decide_eq_false (by omega)
    have b1 : decide (4611686018427387904 < s) = false := decide_eq_false (by omega)
    have b2 : decide (ev < 1) = false := decide_eq_false (by omega)
    clear c0 c1 c2 c3
    go_enter Try.func52, Try.ntmps52
    go_wp2_with (first | go_step3 | ((with_reducible apply sl_want); exact rfl) | ((with_reducible apply sl_load HM); exact rfl; infer_instance; infer_instance; (try simp only [Act.put, List.setIfInBounds_toArray, List.set_cons_zero, List.set_cons_succ])) | ((with_reducible apply sl_store HM); exact rfl; (first | exact Ev.tmp rfl | exact Ev.const); infer_instance; infer_instance; infer_instance; clear HM; (try clear wq); intro wq HM; (try simp only [Act.put, List.setIfInBounds_toArray, List.set_cons_zero, List.set_cons_succ])) | ((with_reducible apply sl_loadR); exact rfl; assumption; (try simp only [Act.put, List.setIfInBounds_toArray, List.set_cons_zero, List.set_cons_succ])) | ((with_reducible apply sl_loadH HM); exact rfl; assumption; infer_instance; (try simp only [Act.put, List.setIfInBounds_toArray, List.set_cons_zero, List.set_cons_succ])) | ((with_reducible refine gate_dst (N := 4) rfl ?_); (with_reducible apply sl_alloc HM); infer_instance; clear HM; (try clear wq); intro g4 wq HM; (try simp only [Act.put, List.setIfInBounds_toArray, List.set_cons_zero, List.set_cons_succ])))
    exact sl_ret rfl (by simp) (vals_cell HM rfl inferInstance inferInstance rfl (vals_tmp rfl .nil)) ⟨_, rfl, HM.sub⟩
  exfalso; have := HO.out; omega
theorem rec_fl_load {w : World} {ad : Addr} {q : List Rec} (h : Reads w (some ad) (recs q)) {k : Nat} {x : Rec} (hx : q[k]? = some x) : (Instr.loadAt 51 (.pointer (some (ad.add (k * 8))))).run Try.prog w = .ok (.agg x.fl.cells.toArray) w := by
  refine load_seg h (k * 8) ?_ rfl
  show ((recs q).drop (k * 8)).take 5 = x.fl.cells
  have h1 := flat_seg rec_len q k x hx
  have h2 : ((recs q).drop (k * 8)).take 5 = (((recs q).drop (k * 8)).take 8).take 5 := by rw [List.take_take]; rfl
  rw [h2, h1]
  rfl
section
variable {ops : Array Oper} {a : Act} {Q : Exit → Act → World → Prop} {S : World → Prop} {w : World}
variable {dst : Option Tmp} {ty : TypeId} {pos : String} {after : Array Edge} {gd : Option (Nat × Bool)} {i : Nat} {p : List (Nat × Nat)}
theorem t_eqfl {x y : Operand} {f h : Fl} {v : Bool} (hv : decide (f = h) = v) (ho : ops.toList[i]? = some ⟨dst, .binOp .eql 51 x y 51, ty, pos, after, gd⟩) (hw : Region.wanted ⟨dst, .binOp .eql 51 x y 51, ty, pos, after, gd⟩ (yielded ops a.tmps) = true)
    (hx : Ev a x f.val) (hy : Ev a y h.val)
    (k : wpT Try.prog ops Q S p (a.put dst (.bool v)) w) : wpT Try.prog ops Q S ((i, 1) :: p) a w :=
  t_pure ho hw (fun w => by
    subst hv
    have h1 := run_eql_fl f h w
    have hg : (eqGuard .eql 51 x y f.val h.val).run Try.prog w = .ok () w := by
      unfold eqGuard
      go_simp
    simp only [execOp, hx.eq, hy.eq, Sem.run_bind, hg, h1, Result.andThen_ok, Sem.run_pure]) k
end
set_option maxHeartbeats 2000000 in
set_option maxRecDepth 100000 in
/-- Where a flow's record stands in a row. -/
theorem in_calls (q : List Rec) (f : Fl) (A : Option Addr) (c : Nat) (hl : q.length ≤ 1000000) (B : Nat) (w0 w : World) (H : List As) (hr : ∀ w, SL.Mod B w0 H w → Reads w A (recs q)) (HM : SL.Mod B w0 H w) :
    Calls Try.prog 88 #[.slice A q.length c, .agg f.cells.toArray] w fun e w' => e = .returned (.int .i64 (optIx (idxQ q f))) ∧ SL.Mod B w0 H w' := by
  have HR := Aside0.mk hr
  clear hr
  obtain ⟨pr, fr, tt, po, de⟩ := f
  go_enter Try.func88, Try.ntmps88
  go_wp2_with (first | go_step3 | ((with_reducible apply sl_want); exact rfl) | ((with_reducible apply sl_load HM); exact rfl; infer_instance; infer_instance; (try simp only [Act.put, List.setIfInBounds_toArray, List.set_cons_zero, List.set_cons_succ])) | ((with_reducible apply sl_store HM); exact rfl; (first | exact Ev.tmp rfl | exact Ev.const); infer_instance; infer_instance; infer_instance; clear HM; (try clear wq); intro wq HM; (try simp only [Act.put, List.setIfInBounds_toArray, List.set_cons_zero, List.set_cons_succ])) | ((with_reducible apply sl_loadR); exact rfl; assumption; (try simp only [Act.put, List.setIfInBounds_toArray, List.set_cons_zero, List.set_cons_succ])) | ((with_reducible apply sl_loadH HM); exact rfl; assumption; infer_instance; (try simp only [Act.put, List.setIfInBounds_toArray, List.set_cons_zero, List.set_cons_succ])) | ((with_reducible refine gate_dst (N := 3) rfl ?_); (with_reducible apply sl_box HM); (first | exact Ev.tmp rfl | exact Ev.const); exact rfl; clear HM; (try clear wq); intro g3 wq HM; (try simp only [Act.put, List.setIfInBounds_toArray, List.set_cons_zero, List.set_cons_succ])))
  go_loopw [5] (fun v5 wr => ∃ k : Nat, v5 = .int .i64 k ∧ k ≤ q.length ∧ Aside0 ((q.take k).all (fun x => !decide (x.fl = ⟨pr, fr, tt, po, de⟩)) = true) ∧ Aside0 (SL.Mod B w0 (cells g3 [.int .i64 pr, .string fr, .string tt, .int .i64 po, .int .i64 de] 51 :: H) wr)) (fun v5 _ => q.length - (intOf v5).toNat)
  case atStart => exact ⟨0, rfl, by omega, ⟨rfl⟩, ⟨HM⟩⟩
  case round =>
    obtain ⟨k, rfl, hk, HA, HM0⟩ := hrel
    clear HM
    have HM := HM0.out
    clear HM0
    by_cases hlt : k < q.length
    · obtain ⟨ad, rfl⟩ := (HR.out _ HM.sub).addr (by rw [flat_len rec_len]; omega)
      obtain ⟨x, hx⟩ : ∃ x, q[k]? = some x := ⟨_, List.getElem?_eq_getElem hlt⟩
      have hld : Aside0 (∀ w', SL.Mod B w0 H w' → Sem.run Try.prog (Instr.loadAt 51 (.pointer (some (ad.add (k * 8))))) w' = .ok (.agg x.fl.cells.toArray) w') := ⟨fun w' h => rec_fl_load (HR.out _ h) hx⟩
      have HX := Aside0.mk hx
      obtain ⟨f1, hf1⟩ : ∃ f1, x.fl = f1 := ⟨_, rfl⟩
      have HF1 := Aside0.mk hf1
      rw [hf1] at hld
      clear hx hf1
      by_cases hf : f1 = ⟨pr, fr, tt, po, de⟩
      · have E : Aside0 (decide (f1 = ⟨pr, fr, tt, po, de⟩) = true) := ⟨decide_eq_true hf⟩
        have E2 : Aside0 (idxQ q ⟨pr, fr, tt, po, de⟩ = some k) := ⟨idx_at HA.out HX.out (HF1.out.trans hf)⟩
        clear hf
        go_wp2_with (first | go_step3 | ((with_reducible apply sl_want); exact rfl) | ((with_reducible apply sl_load HM); exact rfl; infer_instance; infer_instance; (try simp only [Act.put, List.setIfInBounds_toArray, List.set_cons_zero, List.set_cons_succ])) | ((with_reducible apply sl_store HM); exact rfl; (first | exact Ev.tmp rfl | exact Ev.const); infer_instance; infer_instance; infer_instance; clear HM; (try clear wq); intro wq HM; (try simp only [Act.put, List.setIfInBounds_toArray, List.set_cons_zero, List.set_cons_succ])) | ((with_reducible apply sl_loadR); exact rfl; assumption; (try simp only [Act.put, List.setIfInBounds_toArray, List.set_cons_zero, List.set_cons_succ])) | ((with_reducible apply sl_loadH HM); exact rfl; assumption; infer_instance; (try simp only [Act.put, List.setIfInBounds_toArray, List.set_cons_zero, List.set_cons_succ])) | ((with_reducible refine gate_dst (N := 3) rfl ?_); (with_reducible apply sl_box HM); (first | exact Ev.tmp rfl | exact Ev.const); exact rfl; clear HM; (try clear wq); intro g3 wq HM; (try simp only [Act.put, List.setIfInBounds_toArray, List.set_cons_zero, List.set_cons_succ])))
        refine wp_drawnS HM [] [(0, 1), (1, 1), (2, 1), (3, 1), (4, 0), (5, 0), (6, 1)] (by kernel_rfl) (by kernel_rfl) (by kernel_rfl) (by kernel_rfl) (fun _ _ d _ _ h => by cases d <;> exact h) ?_; clear HM; (try clear wq); intro wq HM
        repeat (first | ((with_reducible refine t_at (n := 6) rfl ?_); (with_reducible apply t_eqfl E.out); exact rfl; exact rfl; (first | exact Ev.tmp rfl | exact Ev.const); (first | exact Ev.tmp rfl | exact Ev.const); (try simp only [Act.put, List.setIfInBounds_toArray, List.set_cons_zero, List.set_cons_succ])) | ((with_reducible apply t_move); exact rfl; exact rfl; (first | exact Ev.tmp rfl | exact Ev.const); (try simp only [Act.put, List.setIfInBounds_toArray, List.set_cons_zero, List.set_cons_succ])) | ((with_reducible apply t_assign); exact rfl; exact rfl; (first | exact Ev.tmp rfl | exact Ev.const); (try simp only [Act.put, List.setIfInBounds_toArray, List.set_cons_zero, List.set_cons_succ])) | ((with_reducible apply t_load HM); exact rfl; exact rfl; exact rfl; infer_instance; infer_instance; infer_instance; (try simp only [Act.put, List.setIfInBounds_toArray, List.set_cons_zero, List.set_cons_succ])) | ((with_reducible apply t_loadH HM); exact rfl; exact rfl; exact rfl; assumption; infer_instance; infer_instance; (try simp only [Act.put, List.setIfInBounds_toArray, List.set_cons_zero, List.set_cons_succ])) | ((with_reducible apply t_skip); exact rfl; exact rfl; (try simp only [Act.put, List.setIfInBounds_toArray, List.set_cons_zero, List.set_cons_succ])) | ((with_reducible apply t_skip0 HM); exact rfl; exact rfl; infer_instance; (try simp only [Act.put, List.setIfInBounds_toArray, List.set_cons_zero, List.set_cons_succ])) | ((with_reducible apply t_skip2 HM); exact rfl; exact rfl; infer_instance; (try simp only [Act.put, List.setIfInBounds_toArray, List.set_cons_zero, List.set_cons_succ])) | ((with_reducible apply t_pure); exact rfl; exact rfl; (focus (intro wv; go_simp; (try (go_ints; (try go_simp))); (first | done | rfl | (rw [if_pos (by omega)]; done)))); (try simp only [Act.put, List.setIfInBounds_toArray, List.set_cons_zero, List.set_cons_succ])))
        refine t_nil ?_
        go_wp2_with (first | go_step3 | ((with_reducible apply sl_want); exact rfl) | ((with_reducible apply sl_load HM); exact rfl; infer_instance; infer_instance; (try simp only [Act.put, List.setIfInBounds_toArray, List.set_cons_zero, List.set_cons_succ])) | ((with_reducible apply sl_store HM); exact rfl; (first | exact Ev.tmp rfl | exact Ev.const); infer_instance; infer_instance; infer_instance; clear HM; (try clear wq); intro wq HM; (try simp only [Act.put, List.setIfInBounds_toArray, List.set_cons_zero, List.set_cons_succ])) | ((with_reducible apply sl_loadR); exact rfl; assumption; (try simp only [Act.put, List.setIfInBounds_toArray, List.set_cons_zero, List.set_cons_succ])) | ((with_reducible apply sl_loadH HM); exact rfl; assumption; infer_instance; (try simp only [Act.put, List.setIfInBounds_toArray, List.set_cons_zero, List.set_cons_succ])) | ((with_reducible refine gate_dst (N := 3) rfl ?_); (with_reducible apply sl_box HM); (first | exact Ev.tmp rfl | exact Ev.const); exact rfl; clear HM; (try clear wq); intro g3 wq HM; (try simp only [Act.put, List.setIfInBounds_toArray, List.set_cons_zero, List.set_cons_succ])))
        exact sl_ret1 rfl (vals_tmp rfl .nil) ⟨by rw [E2.out]; rfl, HM.sub⟩
      · have E : Aside0 (decide (f1 = ⟨pr, fr, tt, po, de⟩) = false) := ⟨decide_eq_false hf⟩
        clear hf
        go_wp2_with (first | go_step3 | ((with_reducible apply sl_want); exact rfl) | ((with_reducible apply sl_load HM); exact rfl; infer_instance; infer_instance; (try simp only [Act.put, List.setIfInBounds_toArray, List.set_cons_zero, List.set_cons_succ])) | ((with_reducible apply sl_store HM); exact rfl; (first | exact Ev.tmp rfl | exact Ev.const); infer_instance; infer_instance; infer_instance; clear HM; (try clear wq); intro wq HM; (try simp only [Act.put, List.setIfInBounds_toArray, List.set_cons_zero, List.set_cons_succ])) | ((with_reducible apply sl_loadR); exact rfl; assumption; (try simp only [Act.put, List.setIfInBounds_toArray, List.set_cons_zero, List.set_cons_succ])) | ((with_reducible apply sl_loadH HM); exact rfl; assumption; infer_instance; (try simp only [Act.put, List.setIfInBounds_toArray, List.set_cons_zero, List.set_cons_succ])) | ((with_reducible refine gate_dst (N := 3) rfl ?_); (with_reducible apply sl_box HM); (first | exact Ev.tmp rfl | exact Ev.const); exact rfl; clear HM; (try clear wq); intro g3 wq HM; (try simp only [Act.put, List.setIfInBounds_toArray, List.set_cons_zero, List.set_cons_succ])))
        refine wp_drawnS HM [] [(0, 1), (1, 1), (2, 1), (3, 1), (4, 0), (5, 0), (6, 1)] (by kernel_rfl) (by kernel_rfl) (by kernel_rfl) (by kernel_rfl) (fun _ _ d _ _ h => by cases d <;> exact h) ?_; clear HM; (try clear wq); intro wq HM
        repeat (first | ((with_reducible refine t_at (n := 6) rfl ?_); (with_reducible apply t_eqfl E.out); exact rfl; exact rfl; (first | exact Ev.tmp rfl | exact Ev.const); (first | exact Ev.tmp rfl | exact Ev.const); (try simp only [Act.put, List.setIfInBounds_toArray, List.set_cons_zero, List.set_cons_succ])) | ((with_reducible apply t_move); exact rfl; exact rfl; (first | exact Ev.tmp rfl | exact Ev.const); (try simp only [Act.put, List.setIfInBounds_toArray, List.set_cons_zero, List.set_cons_succ])) | ((with_reducible apply t_assign); exact rfl; exact rfl; (first | exact Ev.tmp rfl | exact Ev.const); (try simp only [Act.put, List.setIfInBounds_toArray, List.set_cons_zero, List.set_cons_succ])) | ((with_reducible apply t_load HM); exact rfl; exact rfl; exact rfl; infer_instance; infer_instance; infer_instance; (try simp only [Act.put, List.setIfInBounds_toArray, List.set_cons_zero, List.set_cons_succ])) | ((with_reducible apply t_loadH HM); exact rfl; exact rfl; exact rfl; assumption; infer_instance; infer_instance; (try simp only [Act.put, List.setIfInBounds_toArray, List.set_cons_zero, List.set_cons_succ])) | ((with_reducible apply t_skip); exact rfl; exact rfl; (try simp only [Act.put, List.setIfInBounds_toArray, List.set_cons_zero, List.set_cons_succ])) | ((with_reducible apply t_skip0 HM); exact rfl; exact rfl; infer_instance; (try simp only [Act.put, List.setIfInBounds_toArray, List.set_cons_zero, List.set_cons_succ])) | ((with_reducible apply t_skip2 HM); exact rfl; exact rfl; infer_instance; (try simp only [Act.put, List.setIfInBounds_toArray, List.set_cons_zero, List.set_cons_succ])) | ((with_reducible apply t_pure); exact rfl; exact rfl; (focus (intro wv; go_simp; (try (go_ints; (try go_simp))); (first | done | rfl | (rw [if_pos (by omega)]; done)))); (try simp only [Act.put, List.setIfInBounds_toArray, List.set_cons_zero, List.set_cons_succ])))
        refine t_nil ?_
        go_wp2_with (first | go_step3 | ((with_reducible apply sl_want); exact rfl) | ((with_reducible apply sl_load HM); exact rfl; infer_instance; infer_instance; (try simp only [Act.put, List.setIfInBounds_toArray, List.set_cons_zero, List.set_cons_succ])) | ((with_reducible apply sl_store HM); exact rfl; (first | exact Ev.tmp rfl | exact Ev.const); infer_instance; infer_instance; infer_instance; clear HM; (try clear wq); intro wq HM; (try simp only [Act.put, List.setIfInBounds_toArray, List.set_cons_zero, List.set_cons_succ])) | ((with_reducible apply sl_loadR); exact rfl; assumption; (try simp only [Act.put, List.setIfInBounds_toArray, List.set_cons_zero, List.set_cons_succ])) | ((with_reducible apply sl_loadH HM); exact rfl; assumption; infer_instance; (try simp only [Act.put, List.setIfInBounds_toArray, List.set_cons_zero, List.set_cons_succ])) | ((with_reducible refine gate_dst (N := 3) rfl ?_); (with_reducible apply sl_box HM); (first | exact Ev.tmp rfl | exact Ev.const); exact rfl; clear HM; (try clear wq); intro g3 wq HM; (try simp only [Act.put, List.setIfInBounds_toArray, List.set_cons_zero, List.set_cons_succ])))
        refine ⟨⟨k + 1, rfl, hlt, ⟨?_⟩, ⟨HM⟩⟩, by simp only [intOf]; omega⟩
        rw [List.take_add_one, HX.out, List.all_append, HA.out]
        simp [HF1.out, E.out]
    · have hkl : k = q.length := by omega
      subst hkl
      have E2 : Aside0 (idxQ q ⟨pr, fr, tt, po, de⟩ = none) := ⟨idx_none (by have := HA.out; rwa [List.take_length] at this)⟩
      go_wp2_with (first | go_step3 | ((with_reducible apply sl_want); exact rfl) | ((with_reducible apply sl_load HM); exact rfl; infer_instance; infer_instance; (try simp only [Act.put, List.setIfInBounds_toArray, List.set_cons_zero, List.set_cons_succ])) | ((with_reducible apply sl_store HM); exact rfl; (first | exact Ev.tmp rfl | exact Ev.const); infer_instance; infer_instance; infer_instance; clear HM; (try clear wq); intro wq HM; (try simp only [Act.put, List.setIfInBounds_toArray, List.set_cons_zero, List.set_cons_succ])) | ((with_reducible apply sl_loadR); exact rfl; assumption; (try simp only [Act.put, List.setIfInBounds_toArray, List.set_cons_zero, List.set_cons_succ])) | ((with_reducible apply sl_loadH HM); exact rfl; assumption; infer_instance; (try simp only [Act.put, List.setIfInBounds_toArray, List.set_cons_zero, List.set_cons_succ])) | ((with_reducible refine gate_dst (N := 3) rfl ?_); (with_reducible apply sl_box HM); (first | exact Ev.tmp rfl | exact Ev.const); exact rfl; clear HM; (try clear wq); intro g3 wq HM; (try simp only [Act.put, List.setIfInBounds_toArray, List.set_cons_zero, List.set_cons_succ])))
      exact sl_ret1 rfl (vals_tmp rfl .nil) ⟨by rw [E2.out]; rfl, HM.sub⟩
end Go.Proofs.Ytghfoooldcbdnaa
