/-
  A MAP OF ONE's OWN, ITS KEYS FLOWS: read, written, made.
-/
import Derived.Test.YtghfoooldcbdnaaOps3
import Derived.Test.YtghfoooldcbdnaaEnc
import Derived.WideKeyRuns
import Derived.MapKept
import Derived.Carry
set_option linter.unusedVariables false
set_option linter.unusedSimpArgs false
namespace Go.Proofs.Ytghfoooldcbdnaa
open Go.RowKit Go.Proofs.Ytghfoooldcbdnaa.SL Go.Proofs.YtghfoooldcbdnaaW.PrintWords
/-- A flow. -/
structure Fl where
  pr : Int
  fr : ByteArray
  tt : ByteArray
  po : Int
  de : Int
  deriving DecidableEq
abbrev Fl.cells (f : Fl) : List Value := [.int .i64 f.pr, .string f.fr, .string f.tt, .int .i64 f.po, .int .i64 f.de]
abbrev Fl.val (f : Fl) : Value := .agg f.cells.toArray
def Rec.fl (r : Rec) : Fl := ⟨r.pr, r.fr, r.tt, r.po, r.de⟩
theorem toList_ext {a b : ByteArray} (h : a.toList = b.toList) : a = b := by
  rw [ByteArray.toList_eq, ByteArray.toList_eq] at h
  exact ByteArray.ext (Array.ext' h)
set_option maxRecDepth 100000 in
theorem run_eql_fl (a b : Fl) (w : World) : (binOp .eql 51 a.val b.val).run Try.prog w = .ok (.bool (decide (a = b))) w := by
  obtain ⟨a0, a1, a2, a3, a4⟩ := a
  obtain ⟨b0, b1, b2, b3, b4⟩ := b
  simp only [Fl.val, Fl.cells]
  by_cases h0 : a0 = b0
  · by_cases h1 : a1 = b1
    · by_cases h2 : a2 = b2
      · by_cases h3 : a3 = b3
        · by_cases h4 : a4 = b4
          · subst h0 h1 h2 h3 h4
            go_simp
          · have e : (decide ((⟨a0, a1, a2, a3, a4⟩ : Fl) = ⟨b0, b1, b2, b3, b4⟩)) = false := by simp [h4]
            rw [e]
            subst h0 h1 h2 h3
            go_simp
        · have e : (decide ((⟨a0, a1, a2, a3, a4⟩ : Fl) = ⟨b0, b1, b2, b3, b4⟩)) = false := by simp [h3]
          rw [e]
          subst h0 h1 h2
          go_simp
      · have e : (decide ((⟨a0, a1, a2, a3, a4⟩ : Fl) = ⟨b0, b1, b2, b3, b4⟩)) = false := by simp [h2]
        have h2' : ¬ a2.toList = b2.toList := fun h => h2 (toList_ext h)
        rw [e]
        subst h0 h1
        go_simp
    · have e : (decide ((⟨a0, a1, a2, a3, a4⟩ : Fl) = ⟨b0, b1, b2, b3, b4⟩)) = false := by simp [h1]
      have h1' : ¬ a1.toList = b1.toList := fun h => h1 (toList_ext h)
      rw [e]
      subst h0
      go_simp
  · have e : (decide ((⟨a0, a1, a2, a3, a4⟩ : Fl) = ⟨b0, b1, b2, b3, b4⟩)) = false := by simp [h0]
    rw [e]
    go_simp
theorem run_equal_fl (a b : Fl) (w : World) : (Op.equal 51 a.val b.val).run Try.prog w = .ok (decide (a = b)) w := by
  have h := run_eql_fl a b w
  simp only [binOp, Sem.run_bind] at h
  revert h
  cases (Op.equal 51 a.val b.val).run Try.prog w with
  | ok r w' =>
    intro h
    simp only [Result.andThen_ok, Sem.run_pure] at h
    injection h with h1 h2
    injection h1 with h1
    rw [h1, h2]
  | halt hh w' => intro h; simp [Result.andThen] at h
set_option maxRecDepth 100000 in
theorem run_ck (f : Fl) (e : Bool) (w : World) : (Instr.checkKey e 10000 51 f.val).run Try.prog w = .ok () w := by
  have hp : ∀ (n : Nat) (t : TypeId) (v : Value), (t = 3 ∨ t = 49) → (Instr.checkKey e (n + 1) t v).run Try.prog w = .ok () w := by
    rintro n t v (rfl | rfl)
    · simp [Instr.checkKey, run_underlying Try.underlying3]
    · simp [Instr.checkKey, run_underlying Try.underlying49]
  have hq : ∀ (t : TypeId) (cs : Array Value) (off : Nat) (v : Value), (t = 3 ∨ t = 49) → cs[off]? = some v → (part t cs off).run Try.prog w = .ok v w := by
    rintro t cs off v (rfl | rfl) hv
    · simp [part, isAgg, run_underlying Try.underlying3, hv]
    · simp [part, isAgg, run_underlying Try.underlying49, hv]
  show (Instr.checkKey e (9999 + 1) 51 f.val).run Try.prog w = .ok () w
  unfold Instr.checkKey
  simp only [Sem.run_bind, run_underlying Try.underlying51, Result.andThen_ok, Fl.val]
  rw [← Array.forIn_toList]
  have q0 := hq 3 f.cells.toArray 0 (.int .i64 f.pr) (.inl rfl) rfl
  have q1 := hq 49 f.cells.toArray 1 (.string f.fr) (.inr rfl) rfl
  have q2 := hq 49 f.cells.toArray 2 (.string f.tt) (.inr rfl) rfl
  have q3 := hq 3 f.cells.toArray 3 (.int .i64 f.po) (.inl rfl) rfl
  have q4 := hq 3 f.cells.toArray 4 (.int .i64 f.de) (.inl rfl) rfl
  have p0 := fun v => hp 9998 3 v (.inl rfl)
  have p1 := fun v => hp 9998 49 v (.inr rfl)
  simp only [List.forIn_cons, List.forIn_nil, Sem.run_bind, q0, q1, q2, q3, q4, Result.andThen_ok, p0, p1, Sem.run_pure, ne_eq, String.reduceEq, not_false_eq_true, if_true]
/-! ### the map, as a row of keys and values -/
/-- What a flow has in a map: the first that is found. -/
def kget : List (Fl × List Value) → Fl → Option (List Value)
  | [], _ => none
  | (k, v) :: l, f => if f = k then some v else kget l f
def kput : List (Fl × List Value) → Fl → List Value → List (Fl × List Value)
  | [], f, v => [(f, v)]
  | (k, x) :: l, f, v => if f = k then (k, v) :: l else (k, x) :: kput l f v
theorem kget_put (l : List (Fl × List Value)) (f h : Fl) (v : List Value) : kget (kput l f v) h = if h = f then some v else kget l h := by
  induction l with
  | nil => simp [kput, kget]
  | cons p l ih =>
    obtain ⟨k, x⟩ := p
    unfold kput
    by_cases hk : f = k
    · subst hk
      rw [if_pos rfl]
      unfold kget
      by_cases hh : h = f
      · rw [if_pos hh, if_pos hh]
      · rw [if_neg hh, if_neg hh, if_neg hh]
    · rw [if_neg hk]
      unfold kget
      by_cases hh : h = k
      · rw [if_pos hh, if_neg (fun e => hk (e.symm.trans hh)), if_pos hh]
      · rw [if_neg hh, if_neg hh, ih]
/-- An entry, and its key and value. -/
def ent (e : MapEntry) (p : Fl × List Value) : Prop := e.key = p.1.val ∧ e.val = .agg p.2.toArray
def entsOf : List MapEntry → List (Fl × List Value) → Prop
  | [], [] => True
  | e :: es, p :: ps => ent e p ∧ entsOf es ps
  | _, _ => False
theorem run_findAsking_fl (f : Fl) (w : World) : ∀ (es : List MapEntry) (ps : List (Fl × List Value)) (i : Nat), entsOf es ps →
    (kget ps f = none ∧ (Instr.findAsking 51 f.val es i).run Try.prog w = .ok none w ∧ ∀ v, kput ps f v = ps ++ [(f, v)]) ∨
    ∃ j x e, kget ps f = some x ∧ (Instr.findAsking 51 f.val es i).run Try.prog w = .ok (some (i + j, .agg x.toArray)) w ∧ es[j]? = some e ∧ e.key = f.val ∧ ∀ v, entsOf (es.modify j (fun e => { e with key := f.val, val := .agg v.toArray })) (kput ps f v)
  | [], [], i, _ => .inl ⟨rfl, by simp [Instr.findAsking], fun v => rfl⟩
  | [], _ :: _, _, h => h.elim
  | _ :: _, [], _, h => h.elim
  | e :: es, (k, x) :: ps, i, h => by
    obtain ⟨⟨h1, h2⟩, h3⟩ := h
    dsimp only at h1 h2
    have he := run_equal_fl f k w
    by_cases hk : f = k
    · subst hk
      right
      rw [decide_eq_true rfl] at he
      refine ⟨0, x, e, by simp [kget], ?_, rfl, h1, fun v => ?_⟩
      · simp only [Instr.findAsking, h1, Sem.run_bind, he, Result.andThen_ok, if_true, Sem.run_pure, h2, Nat.add_zero]
      · simp only [kput, if_true]
        exact ⟨⟨rfl, rfl⟩, h3⟩
    · rw [decide_eq_false hk] at he
      rcases run_findAsking_fl f w es ps (i + 1) h3 with ⟨a1, a2, a3⟩ | ⟨j, y, e', a1, a2, a3, a4, a5⟩
      · left
        refine ⟨by simp [kget, hk, a1], ?_, fun v => by simp [kput, hk, a3]⟩
        simp only [Instr.findAsking, h1, Sem.run_bind, he, Result.andThen_ok, Bool.false_eq_true, if_false, a2]
      · right
        refine ⟨j + 1, y, e', by simp [kget, hk, a1], ?_, by simpa using a3, a4, fun v => ?_⟩
        · simp only [Instr.findAsking, h1, Sem.run_bind, he, Result.andThen_ok, Bool.false_eq_true, if_false, a2]
          rw [show i + 1 + j = i + (j + 1) from by omega]
        · simp only [kput, if_neg hk, List.modify_succ_cons, entsOf]
          exact ⟨⟨h1, h2⟩, a5 v⟩
/-- A map of one's own. -/
def kmap (g : Nat) (ps : List (Fl × List Value)) : As where
  sat F w := F g ∧ ∃ es clock, w.heap[g]? = some (.map es clock) ∧ entsOf es.toList ps
  loc h hk := by
    obtain ⟨h1, es, clock, h2, h3⟩ := h
    exact ⟨h1, es, clock, (hk g h1).trans h2, h3⟩
  up h hk := ⟨hk g h.1, h.2⟩
theorem ba_refl (s : ByteArray) : (s == s) = true := by
  cases s with
  | mk d => exact beq_self_eq_true d
theorem same_fl (f : Fl) : Instr.sameBits 10000 f.val f.val = true := by
  show Instr.sameBits (9999 + 1) f.val f.val = true
  simp [Instr.sameBits, Fl.val, Fl.cells, ba_refl]
theorem entsOf_push : ∀ (es : List MapEntry) (ps : List (Fl × List Value)) (e : MapEntry) (p : Fl × List Value), entsOf es ps → ent e p → entsOf (es ++ [e]) (ps ++ [p])
  | [], [], e, p, _, he => ⟨he, trivial⟩
  | [], _ :: _, _, _, h, _ => h.elim
  | _ :: _, [], _, _, h, _ => h.elim
  | _ :: es, _ :: ps, e, p, h, he => ⟨h.1, entsOf_push es ps e p h.2 he⟩
theorem zero138 (w : World) : (zeroValue 138).run Try.prog w = .ok (.agg #[.int .i64 0, .int .i64 0]) w := by
  have h : ((Try.prog.info? 138).bind (·.zero)) = some (.agg #[.int .i64 0, .int .i64 0]) := by kernel_rfl
  obtain ⟨i, h1, h2⟩ := Option.bind_eq_some_iff.1 h
  simp [zeroValue, typeInfo, h1, h2]
def kval (o : Option (List Value)) : List Value := o.getD [.int .i64 0, .int .i64 0]
set_option maxRecDepth 100000 in
theorem run_klookup {w : World} {g : Nat} {es : Array MapEntry} {clock : Nat} {ps : List (Fl × List Value)} (hg : w.heap[g]? = some (.map es clock)) (he : entsOf es.toList ps) (f : Fl) :
    (Instr.lookup 131 (.map (some g)) f.val false).run Try.prog w = .ok (.agg (kval (kget ps f)).toArray) w := by
  have hf := run_findKey_eq (P := Try.prog) (k := 51) w (by rw [Try.underlying51]) f.val es.toList
  have hc := run_ck f es.isEmpty w
  have ho : (getObj g).run Try.prog w = .ok (.map es clock) w := by simp [getObj, Sem.run, hg]
  have hz := zero138 w
  rcases run_findAsking_fl f w es.toList ps 0 he with ⟨a1, a2, _⟩ | ⟨j, x, e, a1, a2, _⟩
  · rw [a2] at hf
    simp only [Instr.lookup, Sem.run_bind, run_underlying Try.underlying131, Result.andThen_ok, ho, Sem.run_pure, hc, hf, hz, a1, kval, Option.getD_none, Bool.false_eq_true, if_false]
  · rw [a2] at hf
    simp only [Instr.lookup, Sem.run_bind, run_underlying Try.underlying131, Result.andThen_ok, ho, Sem.run_pure, hc, hf, a1, kval, Option.getD_some, Bool.false_eq_true, if_false]
set_option maxRecDepth 100000 in
theorem run_kupdate {w : World} {g : Nat} {es : Array MapEntry} {clock : Nat} {ps : List (Fl × List Value)} (hg : w.heap[g]? = some (.map es clock)) (he : entsOf es.toList ps) (f : Fl) (v : List Value) :
    ∃ es' clock', (Instr.mapUpdate 131 (.map (some g)) f.val (.agg v.toArray)).run Try.prog w = .ok () { w with heap := w.heap.setIfInBounds g (.map es' clock') } ∧ entsOf es'.toList (kput ps f v) := by
  have hf := run_findKey_eq (P := Try.prog) (k := 51) w (by rw [Try.underlying51]) f.val es.toList
  have hc := run_ck f false w
  have ho : (getObj g).run Try.prog w = .ok (.map es clock) w := by simp [getObj, Sem.run, hg]
  have hs := fun o => Go.MapKept.run_setObj_map (P := Try.prog) o hg
  rcases run_findAsking_fl f w es.toList ps 0 he with ⟨a1, a2, a3⟩ | ⟨j, x, e, a1, a2, a4, a5, a6⟩
  · rw [a2] at hf
    refine ⟨es.push { key := f.val, val := .agg v.toArray, born := clock }, clock + 1, ?_, ?_⟩
    · simp only [Instr.mapUpdate, Sem.run_bind, run_underlying Try.underlying131, Result.andThen_ok, ho, hc, hf, hs]
    · rw [a3, Array.toList_push]
      exact entsOf_push _ _ _ _ he ⟨rfl, rfl⟩
  · rw [a2] at hf
    have hk : ((es[0 + j]?).map (·.key)).getD f.val = f.val := by
      rw [Nat.zero_add, ← Array.getElem?_toList, a4]
      exact a5
    have hst : (Instr.keyThatStays f.val f.val).run Try.prog w = .ok f.val w := by
      unfold Instr.keyThatStays
      rw [same_fl, if_pos rfl, Sem.run_pure]
    rw [Nat.zero_add] at hf hk
    refine ⟨es.modify j (fun e => { e with key := f.val, val := .agg v.toArray }), clock, ?_, ?_⟩
    · simp only [Instr.mapUpdate, Sem.run_bind, run_underlying Try.underlying131, Result.andThen_ok, ho, hc, hf, hk, hst, hs, Nat.zero_add]
    · rw [Array.toList_modify]
      exact a6 v

/-! ### the operations on it -/
class KM (H : List As) (g : Nat) (ps : outParam (List (Fl × List Value))) (R : outParam (List As)) : Prop where
  sat : ∀ {F : Nat → Prop} {w : World}, Sat H F w → Sat (kmap g ps :: R) F w
instance KM.head {g : Nat} {ps : List (Fl × List Value)} {H : List As} : KM (kmap g ps :: H) g ps H := ⟨fun h => h⟩
instance (priority := low) KM.tail {g : Nat} {ps : List (Fl × List Value)} {A : As} {H R : List As} [h : KM H g ps R] : KM (A :: H) g ps (A :: R) where
  sat := fun {F w} ⟨F1, h1, h2, h3⟩ => by
    obtain ⟨F2, k1, k2, k3⟩ := h.sat h3
    exact ⟨F2, fun b hb => (k1 b hb).1, k2, F1, fun b hb => ⟨h1 b hb, fun hc => (k1 b hc).2 hb⟩, h2, k3.up (fun b hb => ⟨⟨hb.1.1, hb.2⟩, hb.1.2⟩)⟩
theorem Mod.pickMap {B : Nat} {w0 w : World} {H R : List As} (h : SL.Mod B w0 H w) (g : Nat) {ps : List (Fl × List Value)} [s : KM H g ps R] : SL.Mod B w0 (kmap g ps :: R) w := ⟨h.below, h.low, s.sat h.sat⟩
theorem Mod.mapHas {B : Nat} {w0 w : World} {H R : List As} (h : SL.Mod B w0 H w) (g : Nat) {ps : List (Fl × List Value)} [s : KM H g ps R] : ∃ es clock, w.heap[g]? = some (.map es clock) ∧ entsOf es.toList ps := by
  obtain ⟨F, _, h2, _⟩ := s.sat h.sat
  exact h2.2
section
variable {ops : Array Oper} {rest : List Oper} {a : Act} {K : Act → World → Prop} {Q : Exit → Act → World → Prop} {B : Nat} {w0 w : World} {H HS R : List As}
variable {dst : Option Tmp} {ty : TypeId} {pos : String} {after : Array Edge} {gd : Option (Nat × Bool)} {i : Nat} {p : List (Nat × Nat)}
set_option maxRecDepth 100000 in
theorem run_klook (HM : SL.Mod B w0 H w) {m x : Operand} {g : Nat} {f : Fl} {ps : List (Fl × List Value)} (hm : Ev a m (.map (some g))) (hx : Ev a x f.val) (hk : KM H g ps R) :
    (execOp a.eval ⟨dst, .lookup 131 m x false, ty, pos, after, gd⟩).run Try.prog w = .ok (.value (.agg (kval (kget ps f)).toArray)) w := by
  obtain ⟨es, clock, h1, h2⟩ := Mod.mapHas HM g
  simp only [execOp, hm.eq, hx.eq, Sem.run_bind, run_klookup h1 h2 f, Result.andThen_ok, Sem.run_pure]
theorem sl_klook (HM : SL.Mod B w0 H w) {m x : Operand} {g : Nat} (f : Fl) {ps : List (Fl × List Value)} (hm : Ev a m (.map (some g))) (hx : Ev a x f.val) (hk : KM H g ps R)
    (k : wpList Try.prog ops Q rest (a.put dst (.agg (kval (kget ps f)).toArray)) w) : wpList Try.prog ops Q (⟨dst, .lookup 131 m x false, ty, pos, after, none⟩ :: rest) a w :=
  Kd.event_run rfl (run_klook HM hm hx hk) k
theorem t_klook (HM : SL.Mod B w0 H w) {m x : Operand} {g : Nat} (f : Fl) {ps : List (Fl × List Value)} (ho : ops.toList[i]? = some ⟨dst, .lookup 131 m x false, ty, pos, after, gd⟩) (hw : Region.wanted ⟨dst, .lookup 131 m x false, ty, pos, after, gd⟩ (yielded ops a.tmps) = true)
    (hm : Ev a m (.map (some g))) (hx : Ev a x f.val) (hs : Sub HS H) (hk : KM HS g ps R)
    (k : wpT Try.prog ops Q (SL.Mod B w0 HS) p (a.put dst (.agg (kval (kget ps f)).toArray)) w) : wpT Try.prog ops Q (SL.Mod B w0 HS) ((i, 0) :: p) a w :=
  t_pure0 HM ho hw hs (fun w' h => run_klook h hm hx hk) k
set_option maxRecDepth 100000 in
theorem ow_kput (HM : SL.Mod B w0 H w) {m x y : Operand} {g : Nat} (f : Fl) (v : List Value) {ps : List (Fl × List Value)} (hm : Ev a m (.map (some g))) (hx : Ev a x f.val) (hy : Ev a y (.agg v.toArray)) (hk : KM H g ps R)
    (k : ∀ w', SL.Mod B w0 (kmap g (kput ps f v) :: R) w' → K a w') : Oper.wp Try.prog ⟨none, .mapUpdate 131 m x y, ty, pos, after, gd⟩ a w K Q := by
  have HM2 := Mod.pickMap HM g (ps := ps)
  obtain ⟨F1, q1, ⟨q2, es, clock, h1, h2⟩, q3⟩ := HM2.sat
  obtain ⟨es', clock', hr, he⟩ := run_kupdate h1 h2 f v
  unfold Oper.wp execOp
  simp only [hm.eq, hx.eq, hy.eq, Sem.run_bind, hr, Result.andThen_ok, Sem.run_pure]
  have hin := q1 g q2
  refine k _ ⟨⟨HM.below.os, HM.below.tape, HM.below.output, by simpa using HM.below.size, fun j hj => ?_⟩, HM.low, F1, fun b hb => by simpa using q1 b hb, ⟨q2, es', clock', ?_, he⟩, ?_⟩
  · have : j ≠ g := fun e => by have := hin.1; omega
    show (w.heap.setIfInBounds g _)[j]? = _
    rw [Array.getElem?_setIfInBounds_ne (Ne.symm this)]
    exact HM.below.block j hj
  · show (w.heap.setIfInBounds g _)[g]? = _
    rw [Array.getElem?_setIfInBounds_self_of_lt hin.2]
  · have q4 := Sat.loc (w' := { w with heap := w.heap.setIfInBounds g (.map es' clock') }) q3 (fun b hb => by
      have : b ≠ g := fun e => hb.2 (e ▸ q2)
      show (w.heap.setIfInBounds g _)[b]? = _
      rw [Array.getElem?_setIfInBounds_ne (Ne.symm this)])
    exact q4.up (fun b hb => by simpa using hb)
set_option maxRecDepth 100000 in
theorem sl_kput (HM : SL.Mod B w0 H w) {m x y : Operand} {g : Nat} (f : Fl) (v : List Value) {ps : List (Fl × List Value)} (hm : Ev a m (.map (some g))) (hx : Ev a x f.val) (hy : Ev a y (.agg v.toArray)) (hk : KM H g ps R)
    (k : ∀ w', SL.Mod B w0 (kmap g (kput ps f v) :: R) w' → wpList Try.prog ops Q rest a w') : wpList Try.prog ops Q (⟨none, .mapUpdate 131 m x y, ty, pos, after, none⟩ :: rest) a w :=
  wpList_plain rfl fun _ hK => ow_kput HM f v hm hx hy hk fun w' h => hK _ _ (k w' h)
theorem ow_kmake (HM : SL.Mod B w0 H w) {t : TypeId}
    (k : ∀ g w', SL.Mod B w0 (kmap g [] :: H) w' → K (a.put dst (.map (some g))) w') : Oper.wp Try.prog ⟨dst, .makeMap t none, ty, pos, after, gd⟩ a w K Q := by
  unfold Oper.wp execOp
  simp only [Option.map_none, Sem.run_bind, run_makeMap, Result.andThen_ok, Sem.run_pure]
  have hg := (MapKept.heap_alloc w (.map #[] 0)).1
  exact k _ _ (HM.grow (below_alloc (Below.refl _ _) _) _ ⟨⟨Nat.le_refl _, by simp⟩, #[], 0, hg, trivial⟩)
theorem sl_kmake (HM : SL.Mod B w0 H w) {t : TypeId}
    (k : ∀ g w', SL.Mod B w0 (kmap g [] :: H) w' → wpList Try.prog ops Q rest (a.put dst (.map (some g))) w') : wpList Try.prog ops Q (⟨dst, .makeMap t none, ty, pos, after, none⟩ :: rest) a w :=
  wpList_plain rfl fun _ hK => ow_kmake HM fun g w' h => hK _ _ (k g w' h)
end
end Go.Proofs.Ytghfoooldcbdnaa
