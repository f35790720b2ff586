/-
  PART 5 OF THE PROOF OF SyncinEnds: laid together from the proof's own texts: Ops5, Ops4, Ops6, Ops7, Ops9, Recv.
-/
import Derived.WideKeyRuns
import Derived.MapKept
import Derived.Carry
import Derived.ArgAppend
import Derived.Outline
import Derived.Test.YtghfoooldcbdnaaEnd3
import Derived.Test.YtghfoooldcbdnaaEnd4
set_option linter.unusedVariables false
set_option linter.unusedSimpArgs false
namespace Go.Proofs.Ytghfoooldcbdnaa
open Go.RowKit Go.Proofs.Ytghfoooldcbdnaa.SL Go.Proofs.YtghfoooldcbdnaaW.PrintWords
/-- A flow. -/
structure Fl where
  pr : Int
  fr : ByteArray
  tt : ByteArray
  po : Int
  de : Int
  deriving DecidableEq
abbrev Fl.cells (f : Fl) : List Value := [.int .i64 f.pr, .string f.fr, .string f.tt, .int .i64 f.po, .int .i64 f.de]
abbrev Fl.val (f : Fl) : Value := .agg f.cells.toArray
def Rec.fl (r : Rec) : Fl := ⟨r.pr, r.fr, r.tt, r.po, r.de⟩
theorem toList_ext {a b : ByteArray} (h : a.toList = b.toList) : a = b := by
  rw [ByteArray.toList_eq, ByteArray.toList_eq] at h
  exact ByteArray.ext (Array.ext' h)
set_option maxRecDepth 100000 in
theorem run_eql_fl (a b : Fl) (w : World) : (binOp .eql 51 a.val b.val).run Try.prog w = .ok (.bool (decide (a = b))) w := by
  obtain ⟨a0, a1, a2, a3, a4⟩ := a
  obtain ⟨b0, b1, b2, b3, b4⟩ := b
  simp only [Fl.val, Fl.cells]
  by_cases h0 : a0 = b0
  · by_cases h1 : a1 = b1
    · by_cases h2 : a2 = b2
      · by_cases h3 : a3 = b3
        · by_cases h4 : a4 = b4
          · subst h0 h1 h2 h3 h4
            go_simp
          · have e : (decide ((⟨a0, a1, a2, a3, a4⟩ : Fl) = ⟨b0, b1, b2, b3, b4⟩)) = false := by simp [h4]
            rw [e]
            subst h0 h1 h2 h3
            go_simp
        · have e : (decide ((⟨a0, a1, a2, a3, a4⟩ : Fl) = ⟨b0, b1, b2, b3, b4⟩)) = false := by simp [h3]
          rw [e]
          subst h0 h1 h2
          go_simp
      · have e : (decide ((⟨a0, a1, a2, a3, a4⟩ : Fl) = ⟨b0, b1, b2, b3, b4⟩)) = false := by simp [h2]
        have h2' : ¬ a2.toList = b2.toList := fun h => h2 (toList_ext h)
        rw [e]
        subst h0 h1
        go_simp
    · have e : (decide ((⟨a0, a1, a2, a3, a4⟩ : Fl) = ⟨b0, b1, b2, b3, b4⟩)) = false := by simp [h1]
      have h1' : ¬ a1.toList = b1.toList := fun h => h1 (toList_ext h)
      rw [e]
      subst h0
      go_simp
  · have e : (decide ((⟨a0, a1, a2, a3, a4⟩ : Fl) = ⟨b0, b1, b2, b3, b4⟩)) = false := by simp [h0]
    rw [e]
    go_simp
theorem run_equal_fl (a b : Fl) (w : World) : (Op.equal 51 a.val b.val).run Try.prog w = .ok (decide (a = b)) w := by
  have h := run_eql_fl a b w
  simp only [binOp, Sem.run_bind] at h
  revert h
  cases (Op.equal 51 a.val b.val).run Try.prog w with
  | ok r w' =>
    intro h
    simp only [Result.andThen_ok, Sem.run_pure] at h
    injection h with h1 h2
    injection h1 with h1
    rw [h1, h2]
  | halt hh w' => intro h; simp [Result.andThen] at h
set_option maxRecDepth 100000 in
theorem run_ck (f : Fl) (e : Bool) (w : World) : (Instr.checkKey e 10000 51 f.val).run Try.prog w = .ok () w := by
  have hp : ∀ (n : Nat) (t : TypeId) (v : Value), (t = 3 ∨ t = 49) → (Instr.checkKey e (n + 1) t v).run Try.prog w = .ok () w := by
    rintro n t v (rfl | rfl)
    · simp [Instr.checkKey, run_underlying Try.underlying3]
    · simp [Instr.checkKey, run_underlying Try.underlying49]
  have hq : ∀ (t : TypeId) (cs : Array Value) (off : Nat) (v : Value), (t = 3 ∨ t = 49) → cs[off]? = some v → (part t cs off).run Try.prog w = .ok v w := by
    rintro t cs off v (rfl | rfl) hv
    · simp [part, isAgg, run_underlying Try.underlying3, hv]
    · simp [part, isAgg, run_underlying Try.underlying49, hv]
  show (Instr.checkKey e (9999 + 1) 51 f.val).run Try.prog w = .ok () w
  unfold Instr.checkKey
  simp only [Sem.run_bind, run_underlying Try.underlying51, Result.andThen_ok, Fl.val]
  rw [← Array.forIn_toList]
  have q0 := hq 3 f.cells.toArray 0 (.int .i64 f.pr) (.inl rfl) rfl
  have q1 := hq 49 f.cells.toArray 1 (.string f.fr) (.inr rfl) rfl
  have q2 := hq 49 f.cells.toArray 2 (.string f.tt) (.inr rfl) rfl
  have q3 := hq 3 f.cells.toArray 3 (.int .i64 f.po) (.inl rfl) rfl
  have q4 := hq 3 f.cells.toArray 4 (.int .i64 f.de) (.inl rfl) rfl
  have p0 := fun v => hp 9998 3 v (.inl rfl)
  have p1 := fun v => hp 9998 49 v (.inr rfl)
  simp only [List.forIn_cons, List.forIn_nil, Sem.run_bind, q0, q1, q2, q3, q4, Result.andThen_ok, p0, p1, Sem.run_pure, ne_eq, String.reduceEq, not_false_eq_true, if_true]
/-! ### the map, as a row of keys and values -/
/-- What a flow has in a map: the first that is found. -/
def kget : List (Fl × List Value) → Fl → Option (List Value)
  | [], _ => none
  | (k, v) :: l, f => if f = k then some v else kget l f
def kput : List (Fl × List Value) → Fl → List Value → List (Fl × List Value)
  | [], f, v => [(f, v)]
  | (k, x) :: l, f, v => if f = k then (k, v) :: l else (k, x) :: kput l f v
/-- An entry, and its key and value. -/
def ent (e : MapEntry) (p : Fl × List Value) : Prop := e.key = p.1.val ∧ e.val = .agg p.2.toArray
def entsOf : List MapEntry → List (Fl × List Value) → Prop
  | [], [] => True
  | e :: es, p :: ps => ent e p ∧ entsOf es ps
  | _, _ => False
theorem run_findAsking_fl (f : Fl) (w : World) : ∀ (es : List MapEntry) (ps : List (Fl × List Value)) (i : Nat), entsOf es ps →
    (kget ps f = none ∧ (Instr.findAsking 51 f.val es i).run Try.prog w = .ok none w ∧ ∀ v, kput ps f v = ps ++ [(f, v)]) ∨
    ∃ j x e, kget ps f = some x ∧ (Instr.findAsking 51 f.val es i).run Try.prog w = .ok (some (i + j, .agg x.toArray)) w ∧ es[j]? = some e ∧ e.key = f.val ∧ ∀ v, entsOf (es.modify j (fun e => { e with key := f.val, val := .agg v.toArray })) (kput ps f v)
  | [], [], i, _ => .inl ⟨rfl, by simp [Instr.findAsking], fun v => rfl⟩
  | [], _ :: _, _, h => h.elim
  | _ :: _, [], _, h => h.elim
  | e :: es, (k, x) :: ps, i, h => by
    obtain ⟨⟨h1, h2⟩, h3⟩ := h
    dsimp only at h1 h2
    have he := run_equal_fl f k w
    by_cases hk : f = k
    · subst hk
      right
      rw [decide_eq_true rfl] at he
      refine ⟨0, x, e, by simp [kget], ?_, rfl, h1, fun v => ?_⟩
      · simp only [Instr.findAsking, h1, Sem.run_bind, he, Result.andThen_ok, if_true, Sem.run_pure, h2, Nat.add_zero]
      · simp only [kput, if_true]
        exact ⟨⟨rfl, rfl⟩, h3⟩
    · rw [decide_eq_false hk] at he
      rcases run_findAsking_fl f w es ps (i + 1) h3 with ⟨a1, a2, a3⟩ | ⟨j, y, e', a1, a2, a3, a4, a5⟩
      · left
        refine ⟨by simp [kget, hk, a1], ?_, fun v => by simp [kput, hk, a3]⟩
        simp only [Instr.findAsking, h1, Sem.run_bind, he, Result.andThen_ok, Bool.false_eq_true, if_false, a2]
      · right
        refine ⟨j + 1, y, e', by simp [kget, hk, a1], ?_, by simpa using a3, a4, fun v => ?_⟩
        · simp only [Instr.findAsking, h1, Sem.run_bind, he, Result.andThen_ok, Bool.false_eq_true, if_false, a2]
          rw [show i + 1 + j = i + (j + 1) from by omega]
        · simp only [kput, if_neg hk, List.modify_succ_cons, entsOf]
          exact ⟨⟨h1, h2⟩, a5 v⟩
/-- A map of one's own. -/
def kmap (g : Nat) (ps : List (Fl × List Value)) : As where
  sat F w := F g ∧ ∃ es clock, w.heap[g]? = some (.map es clock) ∧ entsOf es.toList ps
  loc h hk := by
    obtain ⟨h1, es, clock, h2, h3⟩ := h
    exact ⟨h1, es, clock, (hk g h1).trans h2, h3⟩
  up h hk := ⟨hk g h.1, h.2⟩
theorem ba_refl (s : ByteArray) : (s == s) = true := by
  cases s with
  | mk d => exact beq_self_eq_true d
theorem same_fl (f : Fl) : Instr.sameBits 10000 f.val f.val = true := by
  show Instr.sameBits (9999 + 1) f.val f.val = true
  simp [Instr.sameBits, Fl.val, Fl.cells, ba_refl]
theorem entsOf_push : ∀ (es : List MapEntry) (ps : List (Fl × List Value)) (e : MapEntry) (p : Fl × List Value), entsOf es ps → ent e p → entsOf (es ++ [e]) (ps ++ [p])
  | [], [], e, p, _, he => ⟨he, trivial⟩
  | [], _ :: _, _, _, h, _ => h.elim
  | _ :: _, [], _, _, h, _ => h.elim
  | _ :: es, _ :: ps, e, p, h, he => ⟨h.1, entsOf_push es ps e p h.2 he⟩
theorem zero138 (w : World) : (zeroValue 138).run Try.prog w = .ok (.agg #[.int .i64 0, .int .i64 0]) w := by
  have h : ((Try.prog.info? 138).bind (·.zero)) = some (.agg #[.int .i64 0, .int .i64 0]) := by kernel_rfl
  obtain ⟨i, h1, h2⟩ := Option.bind_eq_some_iff.1 h
  simp [zeroValue, typeInfo, h1, h2]
def kval (o : Option (List Value)) : List Value := o.getD [.int .i64 0, .int .i64 0]
set_option maxRecDepth 100000 in
theorem run_klookup {w : World} {g : Nat} {es : Array MapEntry} {clock : Nat} {ps : List (Fl × List Value)} (hg : w.heap[g]? = some (.map es clock)) (he : entsOf es.toList ps) (f : Fl) :
    (Instr.lookup 131 (.map (some g)) f.val false).run Try.prog w = .ok (.agg (kval (kget ps f)).toArray) w := by
  have hf := run_findKey_eq (P := Try.prog) (k := 51) w (by rw [Try.underlying51]) f.val es.toList
  have hc := run_ck f es.isEmpty w
  have ho : (getObj g).run Try.prog w = .ok (.map es clock) w := by simp [getObj, Sem.run, hg]
  have hz := zero138 w
  rcases run_findAsking_fl f w es.toList ps 0 he with ⟨a1, a2, _⟩ | ⟨j, x, e, a1, a2, _⟩
  · rw [a2] at hf
    simp only [Instr.lookup, Sem.run_bind, run_underlying Try.underlying131, Result.andThen_ok, ho, Sem.run_pure, hc, hf, hz, a1, kval, Option.getD_none, Bool.false_eq_true, if_false]
  · rw [a2] at hf
    simp only [Instr.lookup, Sem.run_bind, run_underlying Try.underlying131, Result.andThen_ok, ho, Sem.run_pure, hc, hf, a1, kval, Option.getD_some, Bool.false_eq_true, if_false]
set_option maxRecDepth 100000 in
theorem run_kupdate {w : World} {g : Nat} {es : Array MapEntry} {clock : Nat} {ps : List (Fl × List Value)} (hg : w.heap[g]? = some (.map es clock)) (he : entsOf es.toList ps) (f : Fl) (v : List Value) :
    ∃ es' clock', (Instr.mapUpdate 131 (.map (some g)) f.val (.agg v.toArray)).run Try.prog w = .ok () { w with heap := w.heap.setIfInBounds g (.map es' clock') } ∧ entsOf es'.toList (kput ps f v) := by
  have hf := run_findKey_eq (P := Try.prog) (k := 51) w (by rw [Try.underlying51]) f.val es.toList
  have hc := run_ck f false w
  have ho : (getObj g).run Try.prog w = .ok (.map es clock) w := by simp [getObj, Sem.run, hg]
  have hs := fun o => Go.MapKept.run_setObj_map (P := Try.prog) o hg
  rcases run_findAsking_fl f w es.toList ps 0 he with ⟨a1, a2, a3⟩ | ⟨j, x, e, a1, a2, a4, a5, a6⟩
  · rw [a2] at hf
    refine ⟨es.push { key := f.val, val := .agg v.toArray, born := clock }, clock + 1, ?_, ?_⟩
    · simp only [Instr.mapUpdate, Sem.run_bind, run_underlying Try.underlying131, Result.andThen_ok, ho, hc, hf, hs]
    · rw [a3, Array.toList_push]
      exact entsOf_push _ _ _ _ he ⟨rfl, rfl⟩
  · rw [a2] at hf
    have hk : ((es[0 + j]?).map (·.key)).getD f.val = f.val := by
      rw [Nat.zero_add, ← Array.getElem?_toList, a4]
      exact a5
    have hst : (Instr.keyThatStays f.val f.val).run Try.prog w = .ok f.val w := by
      unfold Instr.keyThatStays
      rw [same_fl, if_pos rfl, Sem.run_pure]
    rw [Nat.zero_add] at hf hk
    refine ⟨es.modify j (fun e => { e with key := f.val, val := .agg v.toArray }), clock, ?_, ?_⟩
    · simp only [Instr.mapUpdate, Sem.run_bind, run_underlying Try.underlying131, Result.andThen_ok, ho, hc, hf, hk, hst, hs, Nat.zero_add]
    · rw [Array.toList_modify]
      exact a6 v

/-! ### the operations on it -/
class KM (H : List As) (g : Nat) (ps : outParam (List (Fl × List Value))) (R : outParam (List As)) : Prop where
  sat : ∀ {F : Nat → Prop} {w : World}, Sat H F w → Sat (kmap g ps :: R) F w
instance KM.head {g : Nat} {ps : List (Fl × List Value)} {H : List As} : KM (kmap g ps :: H) g ps H := ⟨fun h => h⟩
instance (priority := low) KM.tail {g : Nat} {ps : List (Fl × List Value)} {A : As} {H R : List As} [h : KM H g ps R] : KM (A :: H) g ps (A :: R) where
  sat := fun {F w} ⟨F1, h1, h2, h3⟩ => by
    obtain ⟨F2, k1, k2, k3⟩ := h.sat h3
    exact ⟨F2, fun b hb => (k1 b hb).1, k2, F1, fun b hb => ⟨h1 b hb, fun hc => (k1 b hc).2 hb⟩, h2, k3.up (fun b hb => ⟨⟨hb.1.1, hb.2⟩, hb.1.2⟩)⟩
theorem Mod.pickMap {B : Nat} {w0 w : World} {H R : List As} (h : SL.Mod B w0 H w) (g : Nat) {ps : List (Fl × List Value)} [s : KM H g ps R] : SL.Mod B w0 (kmap g ps :: R) w := ⟨h.below, h.low, s.sat h.sat⟩
theorem Mod.mapHas {B : Nat} {w0 w : World} {H R : List As} (h : SL.Mod B w0 H w) (g : Nat) {ps : List (Fl × List Value)} [s : KM H g ps R] : ∃ es clock, w.heap[g]? = some (.map es clock) ∧ entsOf es.toList ps := by
  obtain ⟨F, _, h2, _⟩ := s.sat h.sat
  exact h2.2
section
variable {ops : Array Oper} {rest : List Oper} {a : Act} {K : Act → World → Prop} {Q : Exit → Act → World → Prop} {B : Nat} {w0 w : World} {H HS R : List As}
variable {dst : Option Tmp} {ty : TypeId} {pos : String} {after : Array Edge} {gd : Option (Nat × Bool)} {i : Nat} {p : List (Nat × Nat)}
set_option maxRecDepth 100000 in
theorem run_klook (HM : SL.Mod B w0 H w) {m x : Operand} {g : Nat} {f : Fl} {ps : List (Fl × List Value)} (hm : Ev a m (.map (some g))) (hx : Ev a x f.val) (hk : KM H g ps R) :
    (execOp a.eval ⟨dst, .lookup 131 m x false, ty, pos, after, gd⟩).run Try.prog w = .ok (.value (.agg (kval (kget ps f)).toArray)) w := by
  obtain ⟨es, clock, h1, h2⟩ := Mod.mapHas HM g
  simp only [execOp, hm.eq, hx.eq, Sem.run_bind, run_klookup h1 h2 f, Result.andThen_ok, Sem.run_pure]
theorem t_klook (HM : SL.Mod B w0 H w) {m x : Operand} {g : Nat} (f : Fl) {ps : List (Fl × List Value)} (ho : ops.toList[i]? = some ⟨dst, .lookup 131 m x false, ty, pos, after, gd⟩) (hw : Region.wanted ⟨dst, .lookup 131 m x false, ty, pos, after, gd⟩ (yielded ops a.tmps) = true)
    (hm : Ev a m (.map (some g))) (hx : Ev a x f.val) (hs : Sub HS H) (hk : KM HS g ps R)
    (k : wpT Try.prog ops Q (SL.Mod B w0 HS) p (a.put dst (.agg (kval (kget ps f)).toArray)) w) : wpT Try.prog ops Q (SL.Mod B w0 HS) ((i, 0) :: p) a w :=
  t_pure0 HM ho hw hs (fun w' h => run_klook h hm hx hk) k
set_option maxRecDepth 100000 in
theorem ow_kput (HM : SL.Mod B w0 H w) {m x y : Operand} {g : Nat} (f : Fl) (v : List Value) {ps : List (Fl × List Value)} (hm : Ev a m (.map (some g))) (hx : Ev a x f.val) (hy : Ev a y (.agg v.toArray)) (hk : KM H g ps R)
    (k : ∀ w', SL.Mod B w0 (kmap g (kput ps f v) :: R) w' → K a w') : Oper.wp Try.prog ⟨none, .mapUpdate 131 m x y, ty, pos, after, gd⟩ a w K Q := by
  have HM2 := Mod.pickMap HM g (ps := ps)
  obtain ⟨F1, q1, ⟨q2, es, clock, h1, h2⟩, q3⟩ := HM2.sat
  obtain ⟨es', clock', hr, he⟩ := run_kupdate h1 h2 f v
  unfold Oper.wp execOp
  simp only [hm.eq, hx.eq, hy.eq, Sem.run_bind, hr, Result.andThen_ok, Sem.run_pure]
  have hin := q1 g q2
  refine k _ ⟨⟨HM.below.os, HM.below.tape, HM.below.output, by simpa using HM.below.size, fun j hj => ?_⟩, HM.low, F1, fun b hb => by simpa using q1 b hb, ⟨q2, es', clock', ?_, he⟩, ?_⟩
  · have : j ≠ g := fun e => by have := hin.1; omega
    show (w.heap.setIfInBounds g _)[j]? = _
    rw [Array.getElem?_setIfInBounds_ne (Ne.symm this)]
    exact HM.below.block j hj
  · show (w.heap.setIfInBounds g _)[g]? = _
    rw [Array.getElem?_setIfInBounds_self_of_lt hin.2]
  · have q4 := Sat.loc (w' := { w with heap := w.heap.setIfInBounds g (.map es' clock') }) q3 (fun b hb => by
      have : b ≠ g := fun e => hb.2 (e ▸ q2)
      show (w.heap.setIfInBounds g _)[b]? = _
      rw [Array.getElem?_setIfInBounds_ne (Ne.symm this)])
    exact q4.up (fun b hb => by simpa using hb)
theorem ow_kmake (HM : SL.Mod B w0 H w) {t : TypeId}
    (k : ∀ g w', SL.Mod B w0 (kmap g [] :: H) w' → K (a.put dst (.map (some g))) w') : Oper.wp Try.prog ⟨dst, .makeMap t none, ty, pos, after, gd⟩ a w K Q := by
  unfold Oper.wp execOp
  simp only [Option.map_none, Sem.run_bind, run_makeMap, Result.andThen_ok, Sem.run_pure]
  have hg := (MapKept.heap_alloc w (.map #[] 0)).1
  exact k _ _ (HM.grow (below_alloc (Below.refl _ _) _) _ ⟨⟨Nat.le_refl _, by simp⟩, #[], 0, hg, trivial⟩)
theorem sl_kmake (HM : SL.Mod B w0 H w) {t : TypeId}
    (k : ∀ g w', SL.Mod B w0 (kmap g [] :: H) w' → wpList Try.prog ops Q rest (a.put dst (.map (some g))) w') : wpList Try.prog ops Q (⟨dst, .makeMap t none, ty, pos, after, none⟩ :: rest) a w :=
  wpList_plain rfl fun _ hK => ow_kmake HM fun g w' h => hK _ _ (k g w' h)
end
end Go.Proofs.Ytghfoooldcbdnaa
set_option linter.unusedVariables false
set_option linter.unusedSimpArgs false
namespace Go.Proofs.Ytghfoooldcbdnaa.SL
open Go.RowKit Go.Proofs.YtghfoooldcbdnaaW.PrintWords Go.Proofs.YtghfoooldcbdnaaW.PrintLast
/-- A piece of reads alone, from l to l'. -/
def preOk (md : Region.Mode) (ops : Array Oper) (ds : List Nat) : List (Nat × Nat) → Array Bool → Array Bool → Bool
  | [], l, l' => l == l'
  | (i, k) :: p, l, l' => (match k with
    | 0 => Region.free md ops l i && (Region.ready md ops l).contains i && Region.closedB md ops l && Region.lastB md ops l ds i
    | 1 => Region.free md ops l i && (Region.ready md ops l).contains i
    | _ => false) && preOk md ops ds p (l.setIfInBounds i true) l'
section
variable {P : Program} {ops : Array Oper} {Q : Exit → Act → World → Prop} {S : World → Prop} {ds : List Nat}
theorem wpT_pre (hs : Region.noSelect ops = true) (hQ : ∀ c a d v w, Q (.panic c) (Act.put a d v) w → Q (.panic c) a w) (n : Nat) (l' : Array Bool) :
    ∀ (p : List (Nat × Nat)) (l : Array Bool) (a : Act) (w : World), preOk .any ops ds p l l' = true → wpT P ops (fun _ a w => wpAnyLast P .any ops Q S ds n l' a w) S p a w → wpAnyLast P .any ops Q S ds (p.length + n) l a w
  | [], l, a, w, hok, h => by
    have e : l = l' := by simpa [preOk] using hok
    subst e
    have h' : wpAnyLast P .any ops Q S ds n l a w := h
    rw [List.length_nil, Nat.zero_add]
    exact h'
  | (i, k) :: p, l, a, w, hok, h => by
    simp only [preOk, Bool.and_eq_true] at hok
    obtain ⟨h1, h2⟩ := hok
    simp only [wpT] at h
    rw [List.length_cons, show p.length + 1 + n = (p.length + n) + 1 from by omega]
    cases ho : ops[i]? with
    | none => rw [ho] at h; exact h.elim
    | some o =>
      rw [ho] at h
      match k, h1, h with
      | 0, h1, h =>
        simp only [Bool.and_eq_true] at h1
        obtain ⟨hS, v, hy, hk⟩ := h
        exact wpAnyLast_take ho hs h1.1.1.1 h1.1.1.2 h1.1.2 h1.2 (fun c a w => hQ c a _ _ w) hy hS (wpT_pre hs hQ n l' p _ _ _ h2 hk)
      | 1, h1, h =>
        simp only [Bool.and_eq_true] at h1
        obtain ⟨v, hy, hk⟩ := h
        exact wpAnyLast_any ho (Region.noSelect_spec hs) (fun c a w => hQ c a _ _ w) _ l a w (Region.free_spec ho h1.1) (by simpa using h1.2) hy (wpT_pre hs hQ n l' p _ _ _ h2 hk)
      | k + 2, h1, h => cases h1

variable {B : Nat} {w0 w : World} {H HS : List As} {a : Act}
/-- Reads ahead, then what n and l' say. -/
theorem pre_go (p : List (Nat × Nat)) (n : Nat) {l : Array Bool} (l' : Array Bool) {fuel : Nat} (hs : Region.noSelect ops = true) (hQ : ∀ c a d v w, Q (.panic c) (Act.put a d v) w → Q (.panic c) a w) (hn : fuel = p.length + n) (hok : preOk .any ops ds p l l' = true)
    (h : wpT P ops (fun _ a w => wpAnyLast P .any ops Q S ds n l' a w) S p a w) : wpAnyLast P .any ops Q S ds fuel l a w := by
  subst hn
  exact wpT_pre hs hQ n l' p l a w hok h
/-- From here on one order. -/
theorem lin_go (p : List (Nat × Nat)) {l : Array Bool} {fuel : Nat} (hs : Region.noSelect ops = true) (hQ : ∀ c a d v w, Q (.panic c) (Act.put a d v) w → Q (.panic c) a w) (hn : decide (p.length ≤ fuel) = true) (hok : okT .any ops ds p l = true)
    (h : wpT P ops Q S p a w) : wpAnyLast P .any ops Q S ds fuel l a w := wpT_sound hs hQ p fuel l a w (of_decide_eq_true hn) hok h
/-- Two effects, in either order. -/
theorem fork_go {i j : Nat} {o o' : Oper} {l : Array Bool} {fuel : Nat} (hr : (Region.ready .any ops l == [i, j] && !ds.contains i && !ds.contains j) = true) (ho : ops.toList[i]? = some o) (ho' : ops.toList[j]? = some o') (hw : Region.wanted o (yielded ops a.tmps) = true) (hw' : Region.wanted o' (yielded ops a.tmps) = true)
    (h1 : ∀ K : Act → World → Prop, (∀ a' w' H', Mod B w0 H' w' → Sub HS H' → wpAnyLast P .any ops Q (Mod B w0 HS) ds fuel (l.setIfInBounds i true) a' w' → K a' w') → o.wp P a w K Q)
    (h2 : ∀ K : Act → World → Prop, (∀ a' w' H', Mod B w0 H' w' → Sub HS H' → wpAnyLast P .any ops Q (Mod B w0 HS) ds fuel (l.setIfInBounds j true) a' w' → K a' w') → o'.wp P a w K Q) :
    wpAnyLast P .any ops Q (Mod B w0 HS) ds (fuel + 1) l a w := by
  have ho1 := (Array.getElem?_toList (xs := ops)).symm.trans ho
  have ho2 := (Array.getElem?_toList (xs := ops)).symm.trans ho'
  simp only [Bool.and_eq_true, beq_iff_eq, Bool.not_eq_true', List.contains_eq_mem, decide_eq_false_iff_not] at hr
  refine wpAnyLast_ready hr.1.1 (by simp) (AllReadyL.cons ho1 hr.1.2 (fun K' hK => ?_) (AllReadyL.cons ho2 hr.2 (fun K' hK => ?_) AllReadyL.nil))
  · rw [if_pos hw]
    exact h1 K' (fun a' w' H' hm hsub hh => hK.out a' w' (hm.sub (s := hsub)) (fun _ => hh))
  · rw [if_pos hw']
    exact h2 K' (fun a' w' H' hm hsub hh => hK.out a' w' (hm.sub (s := hsub)) (fun _ => hh))
/-- A region with forks. -/
theorem wp_forkS {id : Nat} (HM : Mod B w0 H w) (ds : List Nat) (hm : P.follows .mixedOrders = true) (h : ∀ w', Mod B w0 H w' → wpAnyLast P .any ops Q (Mod B w0 H) ds ops.size (Array.replicate ops.size false) a w') : (Code.region id ops true).wp P Q a w :=
  wp_region_last hm (h _ HM.drew)
end
end Go.Proofs.Ytghfoooldcbdnaa.SL
set_option linter.unusedVariables false
set_option linter.unusedSimpArgs false
namespace Go.Proofs.Ytghfoooldcbdnaa.SL
open Go.RowKit Go.Proofs.YtghfoooldcbdnaaW.PrintWords
/-- Several things as one. -/
def star (L : List As) : As where
  sat F w := Sat L F w
  loc h hk := Sat.loc h hk
  up h hk := Sat.up h hk
section
variable {B : Nat} {w0 w : World} {H L R : List As}
theorem Mod.unstar (h : Mod B w0 (star L :: H) w) : Mod B w0 (L ++ H) w := by
  obtain ⟨F1, h1, h2, h3⟩ := h.sat
  exact ⟨h.below, h.low, (Sat.append (show Sat L F1 w from h2) h3 (fun b hb hc => hc.2 hb)).up (fun b hb => hb.elim (h1 b) (fun hc => hc.1))⟩
theorem Mod.star (h : Mod B w0 (L ++ H) w) : Mod B w0 (SL.star L :: H) w := by
  obtain ⟨F1, F2, h1, h2, h3, h4, h5⟩ := Sat.part h.sat
  exact ⟨h.below, h.low, F1, h3, h1, h2.up (fun b hb => ⟨h4 b hb, fun hc => h5 b hc hb⟩)⟩
theorem Mod.starNil (h : Mod B w0 H w) : Mod B w0 (SL.star [] :: H) w := Mod.star (L := []) h
/-- One more in the bundle. -/
theorem Mod.starSnoc {A : As} (h : Mod B w0 (SL.star L :: A :: H) w) : Mod B w0 (SL.star (L ++ [A]) :: H) w := by
  have h1 := h.unstar
  refine Mod.star ?_
  rw [List.append_assoc]
  exact h1
theorem sat_mem {A : As} : ∀ {L : List As} {F : Nat → Prop} {w : World}, A ∈ L → Sat L F w → ∃ F1 : Nat → Prop, A.sat F1 w
  | [], _, _, h, _ => by cases h
  | C :: L, F, w, h, ⟨F1, h1, h2, h3⟩ => by
    rcases List.mem_cons.1 h with rfl | h
    · exact ⟨F1, h2⟩
    · exact sat_mem h h3
theorem sat_sub : ∀ {L' L : List As} {F : Nat → Prop} {w : World}, L'.Sublist L → Sat L F w → Sat L' F w
  | _, [], _, _, h, _ => by rw [List.sublist_nil.1 h]; trivial
  | L', A :: L, F, w, h, ⟨F1, h1, h2, h3⟩ => by
    cases h with
    | cons _ h => exact (sat_sub h h3).up (fun b hb => hb.1)
    | cons_cons _ h => exact ⟨F1, h1, h2, sat_sub h h3⟩
theorem Mod.starSub {L' : List As} (h : Mod B w0 (SL.star L :: H) w) (hs : L'.Sublist L) : Mod B w0 (SL.star L' :: H) w := by
  obtain ⟨F1, h1, h2, h3⟩ := h.sat
  exact ⟨h.below, h.low, F1, h1, sat_sub hs h2, h3⟩
theorem Mod.headSat {A : As} (h : Mod B w0 (A :: H) w) : ∃ F1 : Nat → Prop, A.sat F1 w := by
  obtain ⟨F1, _, h2, _⟩ := h.sat
  exact ⟨F1, h2⟩
/-- A row, read no more than that. -/
theorem Mod.rowSeen {A : Option Addr} {n c m : Nat} {e : TypeId} {sz : Nat} {xs : List Value} (h : Mod B w0 (row (.slice A m c) e sz n xs :: H) w) : Mod B w0 (SL.seen A xs :: H) w := by
  obtain ⟨F1, h1, h2, h3⟩ := h.sat
  refine ⟨h.below, h.low, F1, h1, ⟨fun ad e => h2.1 _ (by rw [e]; rfl), (ownsRow_reads h2.2).1⟩, h3⟩
/-- A row's block. -/
theorem Mod.openRow {ad : Addr} {n c m : Nat} {e : TypeId} {sz : Nat} {xs : List Value} (h : Mod B w0 (row (.slice (some ad) m c) e sz n xs :: H) w) :
    ∃ g cs, ad = ⟨g, 0, none⟩ ∧ Mod B w0 (cells g cs e :: H) w ∧ m = n ∧ n ≤ c ∧ c ≤ maxLen ∧ cs.length = c * sz ∧ cs.take (n * sz) = xs := by
  obtain ⟨F1, h1, h2, h3⟩ := h.sat
  rcases h2.2.2 with ⟨hv, _⟩ | ⟨g, cap, cur, hv, _, hg, hn, hc, hs, ht⟩
  · cases hv
  · injection hv with e1 e2 e3
    injection e1 with e1
    subst e1 e2 e3
    exact ⟨g, cur.toList, rfl, ⟨h.below, h.low, F1, h1, ⟨h2.1 g rfl, hg⟩, h3⟩, rfl, hn, hc, by simpa using hs, ht⟩
theorem Mod.closeRow {g n c : Nat} {e : TypeId} {sz : Nat} {cs xs : List Value} (h : Mod B w0 (cells g cs e :: H) w) (hn : n ≤ c) (hc : c ≤ maxLen) (hs : cs.length = c * sz) (ht : cs.take (n * sz) = xs) :
    Mod B w0 (row (.slice (some ⟨g, 0, none⟩) n c) e sz n xs :: H) w := by
  obtain ⟨F1, h1, h2, h3⟩ := h.sat
  refine ⟨h.below, h.low, F1, h1, ⟨fun k hk => ?_, ?_, .inr ⟨g, c, cs.toArray, rfl, Nat.zero_le _, h2.2, hn, hc, by simpa using hs, by simpa using ht⟩⟩, h3⟩
  · have : g = k := by simpa [Value.ownBlock] using hk
    exact this ▸ h2.1
  · rw [← ht, List.length_take, hs]
    exact Nat.min_eq_left (Nat.mul_le_mul_right _ hn)
end
end Go.Proofs.Ytghfoooldcbdnaa.SL
set_option linter.unusedVariables false
set_option linter.unusedSimpArgs false
namespace Go.Proofs.Ytghfoooldcbdnaa.SL
open Go.RowKit Go.Proofs.YtghfoooldcbdnaaW.PrintWords
section
variable {P : Program} {ops : Array Oper} {rest : List Oper} {a : Act} {Q : Exit → Act → World → Prop} {B : Nat} {w0 w : World} {H H' R HS : List As}
variable {dst : Option Tmp} {ty : TypeId} {pos : String} {after : Array Edge} {gd : Option (Nat × Bool)} {K : Act → World → Prop} {S : World → Prop} {i : Nat} {p : List (Nat × Nat)}
variable {t e : TypeId} {sz n c l h m : Nat} {A : Option Addr} {x lo up mx : Operand} {kl kh km : IntKind}
theorem run_subLHM (ht : P.underlying t = some (.slice e)) (hi : (P.info? e).map (·.size) = some sz) (hl : l ≤ h) (hm : h ≤ m) (hc : m ≤ c) :
    (Instr.slice t (.slice A n c) (some (.int kl l)) (some (.int kh h)) (some (.int km m))).run P w = .ok (.slice (subA A l m sz) (h - l) (m - l)) w := by
  have hs := run_sizeOf (w := w) hi
  have hb := run_sliceBound (P := P) (w := w) km (m : Int) c .slice3Acap (by omega) (by omega)
  have hb1 := run_sliceBound (P := P) (w := w) kh (h : Int) m .slice3B (by omega) (by omega)
  have hb2 := run_sliceBound (P := P) (w := w) kl (l : Int) h .slice3C (by omega) (by omega)
  simp [Instr.slice, run_underlying ht, Instr.sliceBounds, hb, hb1, hb2, hs, subA]
theorem run_subHM (ht : P.underlying t = some (.slice e)) (hi : (P.info? e).map (·.size) = some sz) (hm : h ≤ m) (hc : m ≤ c) (hm0 : 0 < m) :
    (Instr.slice t (.slice A n c) none (some (.int kh h)) (some (.int km m))).run P w = .ok (.slice A h m) w := by
  have hs := run_sizeOf (w := w) hi
  have hb := run_sliceBound (P := P) (w := w) km (m : Int) c .slice3Acap (by omega) (by omega)
  have hb1 := run_sliceBound (P := P) (w := w) kh (h : Int) m .slice3B (by omega) (by omega)
  have e0 : ∀ ad : Addr, ad.add 0 = ad := fun ad => by unfold Addr.add; simp
  have e1 : A.map (fun ad => ad.add 0) = A := by cases A <;> simp [e0]
  have hm1 : ¬ m = 0 := by omega
  simp [Instr.slice, run_underlying ht, Instr.sliceBounds, hb, hb1, hs, hm1, e1]
theorem ex_subLHM (hx : Ev a x (.slice A n c)) (hlo : Ev a lo (.int kl l)) (hhi : Ev a up (.int kh h)) (hmx : Ev a mx (.int km m)) (ht : P.underlying t = some (.slice e)) (hi : (P.info? e).map (·.size) = some sz) (hl : l ≤ h) (hm : h ≤ m) (hc : m ≤ c) :
    (execOp a.eval ⟨dst, .slice t x (some lo) (some up) (some mx), ty, pos, after, gd⟩).run P w = .ok (.value (.slice (subA A l m sz) (h - l) (m - l))) w := by
  simp only [execOp, hx.eq, hlo.eq, hhi.eq, hmx.eq, Option.map_some, Sem.run_bind, run_sliceAt_slice (h := elem_of ht), run_subLHM ht hi hl hm hc, Result.andThen_ok, Sem.run_pure]
theorem ex_subHM (hx : Ev a x (.slice A n c)) (hhi : Ev a up (.int kh h)) (hmx : Ev a mx (.int km m)) (ht : P.underlying t = some (.slice e)) (hi : (P.info? e).map (·.size) = some sz) (hm : h ≤ m) (hc : m ≤ c) (hm0 : 0 < m) :
    (execOp a.eval ⟨dst, .slice t x none (some up) (some mx), ty, pos, after, gd⟩).run P w = .ok (.value (.slice A h m)) w := by
  simp only [execOp, hx.eq, hhi.eq, hmx.eq, Option.map_some, Option.map_none, Sem.run_bind, run_sliceAt_slice (h := elem_of ht), run_subHM ht hi hm hc hm0, Result.andThen_ok, Sem.run_pure]
theorem sl_subLHM (l h m : Nat) (hx : Ev a x (.slice A n c)) (hlo : Ev a lo (.int kl l)) (hhi : Ev a up (.int kh h)) (hmx : Ev a mx (.int km m)) (ht : P.underlying t = some (.slice e)) (hi : (P.info? e).map (·.size) = some sz) (hl : l ≤ h) (hm : h ≤ m) (hc : m ≤ c)
    (k : wpList P ops Q rest (a.put dst (.slice (subA A l m sz) (h - l) (m - l))) w) : wpList P ops Q (⟨dst, .slice t x (some lo) (some up) (some mx), ty, pos, after, none⟩ :: rest) a w :=
  Kd.event_run rfl (ex_subLHM hx hlo hhi hmx ht hi hl hm hc) k
theorem t_subH (h : Nat) (ho : ops.toList[i]? = some ⟨dst, .slice t x none (some up) none, ty, pos, after, gd⟩) (hw : Region.wanted ⟨dst, .slice t x none (some up) none, ty, pos, after, gd⟩ (yielded ops a.tmps) = true)
    (hx : Ev a x (.slice A n c)) (hhi : Ev a up (.int kh h)) (ht : P.underlying t = some (.slice e)) (hi : (P.info? e).map (·.size) = some sz) (hl : h ≤ c)
    (k : wpT P ops Q S p (a.put dst (.slice A h c)) w) : wpT P ops Q S ((i, 1) :: p) a w :=
  t_pure ho hw (fun w => ex_subH hx hhi ht hi hl) k
theorem t_subHM (h m : Nat) (ho : ops.toList[i]? = some ⟨dst, .slice t x none (some up) (some mx), ty, pos, after, gd⟩) (hw : Region.wanted ⟨dst, .slice t x none (some up) (some mx), ty, pos, after, gd⟩ (yielded ops a.tmps) = true)
    (hx : Ev a x (.slice A n c)) (hhi : Ev a up (.int kh h)) (hmx : Ev a mx (.int km m)) (ht : P.underlying t = some (.slice e)) (hi : (P.info? e).map (·.size) = some sz) (hm : h ≤ m) (hc : m ≤ c) (hm0 : 0 < m)
    (k : wpT P ops Q S p (a.put dst (.slice A h m)) w) : wpT P ops Q S ((i, 1) :: p) a w :=
  t_pure ho hw (fun w => ex_subHM hx hhi hmx ht hi hm hc hm0) k
/-- Anything that leaves one's own block written over. -/
theorem ow_setrow (HM : Mod B w0 H w) {o : Oper} {g : Nat} {cs cs' : List Value} {tb : TypeId} {v : Value} (hh : Has H g (.cells cs.toArray tb (0, 0)))
    (hrun : w.heap[g]? = some (.cells cs.toArray tb (0, 0)) → (execOp a.eval o).run P w = .ok (.value v) (w.setRow g cs'.toArray)) (hu : Upd H g (.cells cs'.toArray tb (0, 0)) H')
    (k : ∀ w', Mod B w0 H' w' → K (a.put o.dst v) w') : Oper.wp P o a w K Q := by
  have hg := HM.has g (hh := hh)
  unfold Oper.wp
  rw [hrun hg]
  refine k _ ?_
  refine HM.upd g (.cells cs'.toArray tb (0, 0)) rfl rfl rfl (by simp [World.setRow]) (fun b hb => ?_) (setRow_heap w g _ _ _ _ hg)
  simp [World.setRow, Array.getElem?_modify, Ne.symm hb]
/-- append in place: there is room. -/
theorem run_append_in {g c n m c2 : Nat} {A : Option Addr} {cs news : List Value} {tb : TypeId} (ht : P.underlying t = some (.slice e)) (hi : (P.info? e).map (·.size) = some sz) (hsz : 0 < sz) (hg : w.heap[g]? = some (.cells cs.toArray tb (0, 0)))
    (hr : Reads w A news) (hl : news.length = m * sz) (h1 : Ones news) (hroom : n + m ≤ c) (hc : cs.length = c * sz) :
    (Builtin.append_ #[t, t] ty #[.slice (some ⟨g, 0, none⟩) n c, .slice A m c2]).run P w = .ok (.slice (some ⟨g, 0, none⟩) (n + m) c) (w.setRow g (cs.take (n * sz) ++ news ++ cs.drop (n * sz + news.length)).toArray) := by
  obtain ⟨i0, hi0, hs0⟩ := Option.map_eq_some_iff.1 hi
  have hle : (n + m) * sz ≤ c * sz := Nat.mul_le_mul_right _ hroom
  rw [Nat.add_mul] at hle
  have hst := run_storeCells_at (P := P) g (n * sz) tb news 0 cs.toArray w hg (by simp; omega) h1.all
  simp only [Nat.add_zero] at hst
  have e0 : ∀ k, (⟨g, 0, none⟩ : Addr).add k = ⟨g, k, none⟩ := fun k => by unfold Addr.add; simp [eq_comm]
  cases A with
  | some ad =>
    have hfc := run_firstCells_some (P := P) w sz m ad m c2 news hl hr.at
    simp [Builtin.append_, run_underlying ht, sizeOf, typeInfo, hi0, hs0, Builtin.lenOf, hroom, hfc, e0, hst]
  | none =>
    have hn : news = [] := by
      cases news with
      | nil => rfl
      | cons y ys =>
        obtain ⟨ad, h, _⟩ := hr 0 _ rfl
        cases h
    subst hn
    have hm : m = 0 := by
      rcases Nat.mul_eq_zero.1 (show m * sz = 0 by simpa using hl.symm) with h2 | h2
      · exact h2
      · omega
    subst hm
    have hse := setRow_self w g cs.toArray tb (0, 0) hg
    have e1 : (cs.take (n * sz) ++ [] ++ cs.drop (n * sz + ([] : List Value).length)).toArray = cs.toArray := by simp
    rw [e1, hse]
    simp [Builtin.append_, run_underlying ht, sizeOf, typeInfo, hi0, hs0, Builtin.lenOf, hroom, Builtin.firstCells, storeCells]
    omega
theorem ow_append_in (HM : Mod B w0 H w) {s x : Operand} {g c n m c2 : Nat} (q : Nat) {A : Option Addr} {cs news : List Value} {tb : TypeId} (hs : Ev a s (.slice (some ⟨g, 0, none⟩) n c)) (hx : Ev a x (.slice A m c2)) (hh : Has H g (.cells cs.toArray tb (0, 0)))
    (ht : P.underlying t = some (.slice e)) (hi : (P.info? e).map (·.size) = some sz) (hsz : 0 < sz) (hr : Reads w A news) (hl : news.length = m * sz) (h1 : Ones news) (hroom : n + m ≤ c) (hc : cs.length = c * sz) (hq : n + m = q)
    (hu : Upd H g (.cells (cs.take (n * sz) ++ news ++ cs.drop (n * sz + news.length)).toArray tb (0, 0)) H')
    (k : ∀ w', Mod B w0 H' w' → K (a.put dst (.slice (some ⟨g, 0, none⟩) q c)) w') :
    Oper.wp P ⟨dst, .call { callee := .builtin .append, args := #[s, x], argTypes := #[t, t] }, ty, pos, after, gd⟩ a w K Q := by
  subst hq
  refine ow_setrow HM hh (fun hg => ?_) hu k
  have hrun := run_append_in (ty := ty) (c2 := c2) ht hi hsz hg hr hl h1 hroom hc
  unfold execOp
  simp only [resolve, invoke, builtin, Sem.run_bind, Sem.run_pure, Result.andThen_ok, List.map_toArray, List.map_cons, List.map_nil, hs.eq, hx.eq, hrun]
/-- clear of one's own row's piece. -/
theorem zeros_one (zs : List Value) : List.map (fun i => zs[i % zs.length]?.getD default) (List.range zs.length) = zs := by
  apply List.ext_getElem?
  intro i
  rw [List.getElem?_map]
  by_cases h : i < zs.length
  · rw [List.getElem?_range h, Option.map_some, Nat.mod_eq_of_lt h, List.getElem?_eq_getElem h]
    rfl
  · rw [List.getElem?_eq_none (by simpa using h), List.getElem?_eq_none (by omega)]
    rfl
theorem run_clear_in {g off c2 : Nat} {cs zs : List Value} {tb : TypeId} (ht : P.underlying t = some (.slice e)) (hz : ((P.info? e).bind (·.zero)).map (·.cells) = some zs.toArray) (h1 : Ones zs) (hg : w.heap[g]? = some (.cells cs.toArray tb (0, 0)))
    (hc : off + zs.length ≤ cs.length) :
    (Builtin.clear_ #[t] ty #[.slice (some ⟨g, off, none⟩) 1 c2]).run P w = .ok (.tuple #[]) (w.setRow g (cs.take off ++ zs ++ cs.drop (off + zs.length)).toArray) := by
  obtain ⟨v, hv, hvc⟩ := Option.map_eq_some_iff.1 hz
  obtain ⟨i0, hi0, hiz⟩ := Option.bind_eq_some_iff.1 hv
  have hst := run_storeCells_at (P := P) g off tb zs 0 cs.toArray w hg (by simpa using hc) h1.all
  simp only [Nat.add_zero] at hst
  have e1 : (Builtin.zeroCells v.cells 1).toList = zs := by rw [hvc]; simp [Builtin.zeroCells]; exact zeros_one zs
  simp [Builtin.clear_, run_underlying ht, zeroValue, typeInfo, hi0, hiz, e1, hst]
theorem ow_clear_in (HM : Mod B w0 H w) {x : Operand} {g c2 m : Nat} (off : Nat) {A : Option Addr} {cs zs : List Value} {tb : TypeId} (hx : Ev a x (.slice A m c2)) (hA : A = some ⟨g, off, none⟩) (hm : m = 1) (hh : Has H g (.cells cs.toArray tb (0, 0)))
    (ht : P.underlying t = some (.slice e)) (hz : ((P.info? e).bind (·.zero)).map (·.cells) = some zs.toArray) (h1 : Ones zs) (hc : off + zs.length ≤ cs.length)
    (hu : Upd H g (.cells (cs.take off ++ zs ++ cs.drop (off + zs.length)).toArray tb (0, 0)) H')
    (k : ∀ w', Mod B w0 H' w' → K (a.put dst (.tuple #[])) w') :
    Oper.wp P ⟨dst, .call { callee := .builtin .clear, args := #[x], argTypes := #[t] }, ty, pos, after, gd⟩ a w K Q := by
  subst hA hm
  refine ow_setrow HM hh (fun hg => ?_) hu k
  have hrun := run_clear_in (ty := ty) (c2 := c2) ht hz h1 hg hc
  unfold execOp
  simp only [resolve, invoke, builtin, Sem.run_bind, Sem.run_pure, Result.andThen_ok, List.map_toArray, List.map_cons, List.map_nil, hx.eq, hrun]
theorem sl_clear_in (HM : Mod B w0 H w) {x : Operand} {g c2 m : Nat} (off : Nat) {A : Option Addr} {cs zs : List Value} {tb : TypeId} (hx : Ev a x (.slice A m c2)) (hA : A = some ⟨g, off, none⟩) (hm : m = 1) (hh : Has H g (.cells cs.toArray tb (0, 0)))
    (ht : P.underlying t = some (.slice e)) (hz : ((P.info? e).bind (·.zero)).map (·.cells) = some zs.toArray) (h1 : Ones zs) (hc : off + zs.length ≤ cs.length)
    (hu : Upd H g (.cells (cs.take off ++ zs ++ cs.drop (off + zs.length)).toArray tb (0, 0)) H')
    (k : ∀ w', Mod B w0 H' w' → wpList P ops Q rest (a.put dst (.tuple #[])) w') :
    wpList P ops Q (⟨dst, .call { callee := .builtin .clear, args := #[x], argTypes := #[t] }, ty, pos, after, none⟩ :: rest) a w :=
  wpList_plain rfl fun _ hK => ow_clear_in HM off hx hA hm hh ht hz h1 hc hu fun w' h => hK _ _ (k w' h)
end
end Go.Proofs.Ytghfoooldcbdnaa.SL
set_option linter.unusedVariables false
set_option linter.unusedSimpArgs false
namespace Go.Proofs.Ytghfoooldcbdnaa.SL
open Go.RowKit Go.Proofs.YtghfoooldcbdnaaW.PrintWords
/-- A row of one's own, or a part of one with no room behind it. -/
def qrow (v : Value) (e : TypeId) (sz n : Nat) (xs : List Value) : As where
  sat F w := (row v e sz n xs).sat F w ∨ ∃ ad, v = .slice (some ad) n n ∧ xs.length = n * sz ∧ (seen (some ad) xs).sat F w
  loc h hk := by
    rcases h with h | ⟨ad, h1, h2, h3⟩
    · exact .inl (As.loc _ h hk)
    · exact .inr ⟨ad, h1, h2, As.loc _ h3 hk⟩
  up h hk := by
    rcases h with h | ⟨ad, h1, h2, h3⟩
    · exact .inl (As.up _ h hk)
    · exact .inr ⟨ad, h1, h2, As.up _ h3 hk⟩
section
variable {B : Nat} {w0 w : World} {H R : List As} {v : Value} {e : TypeId} {sz n : Nat} {xs : List Value}
theorem Mod.toQ (h : Mod B w0 (row v e sz n xs :: H) w) : Mod B w0 (qrow v e sz n xs :: H) w := by
  obtain ⟨F1, h1, h2, h3⟩ := h.sat
  exact ⟨h.below, h.low, F1, h1, .inl h2, h3⟩
theorem Mod.qSlice (h : Mod B w0 (qrow v e sz n xs :: H) w) : ∃ A c, v = .slice A n c ∧ n ≤ c ∧ xs.length = n * sz ∧ Reads w A xs := by
  obtain ⟨F1, h1, h2, h3⟩ := h.sat
  rcases h2 with h2 | ⟨ad, rfl, hl, h2⟩
  · obtain ⟨A, c, rfl, hc⟩ := row_slice h2.2
    have := ownsRow_reads h2.2
    exact ⟨A, c, rfl, this.2.2.1, h2.2.1, this.1⟩
  · exact ⟨some ad, n, rfl, Nat.le_refl _, hl, h2.2⟩
theorem Mod.qReads {A : Option Addr} {c : Nat} (h : Mod B w0 (qrow (.slice A n c) e sz n xs :: H) w) : Reads w A xs := by
  obtain ⟨A', c', hv, _, _, hr⟩ := h.qSlice
  injection hv with h1
  rw [h1]
  exact hr
theorem Mod.qOne (h : Mod B w0 (qrow v e sz n xs :: H) w) : One v := by
  obtain ⟨A', c', rfl, _⟩ := h.qSlice
  exact ⟨rfl⟩
theorem Mod.qSeen {A : Option Addr} {c : Nat} (h : Mod B w0 (qrow (.slice A n c) e sz n xs :: H) w) : Mod B w0 (seen A xs :: H) w := by
  obtain ⟨F1, h1, h2, h3⟩ := h.sat
  refine ⟨h.below, h.low, F1, h1, ?_, h3⟩
  rcases h2 with h2 | ⟨ad, hv, _, h2⟩
  · exact ⟨fun ad e => h2.1 _ (by rw [e]; rfl), (ownsRow_reads h2.2).1⟩
  · injection hv with e1
    rw [e1]
    exact h2
/-- A part with no room behind it. -/
theorem Mod.qPart {ad : Addr} (h : Mod B w0 (seen (some ad) xs :: H) w) (m sz : Nat) (hl : m * sz ≤ xs.length) (e : TypeId) : Mod B w0 (qrow (.slice (some ad) m m) e sz m (xs.take (m * sz)) :: H) w := by
  obtain ⟨F1, h1, h2, h3⟩ := h.sat
  exact ⟨h.below, h.low, F1, h1, .inr ⟨ad, rfl, by rw [List.length_take]; omega, h2.1, h2.2.take _⟩, h3⟩
end
section
variable {P : Program} {ops : Array Oper} {rest : List Oper} {a : Act} {Q : Exit → Act → World → Prop} {B : Nat} {w0 w : World} {H H' R HS : List As}
variable {dst : Option Tmp} {ty : TypeId} {pos : String} {after : Array Edge} {gd : Option (Nat × Bool)} {K : Act → World → Prop} {S : World → Prop} {i : Nat} {p : List (Nat × Nat)}
theorem run_full_none {t e : TypeId} {sz bytes : Nat} [he : Elem P t e sz bytes] (A : Option Addr) (n c : Nat) : (Builtin.append_ #[t, t] ty #[.slice A n n, .slice none 0 c]).run P w = .ok (.slice A n n) w := by
  obtain ⟨ht, ⟨i, z, hi, hz, hs, hby, hzs⟩, hs0, hb0⟩ := he.ok
  cases A with
  | none => simp [Builtin.append_, run_underlying ht, sizeOf, typeInfo, hi, Builtin.lenOf, Builtin.firstCells]
  | some ad => simp [Builtin.append_, run_underlying ht, sizeOf, typeInfo, hi, Builtin.lenOf, Builtin.firstCells, storeCells]
theorem run_full_zero {t e : TypeId} {sz bytes : Nat} [he : Elem P t e sz bytes] (ad a2 : Addr) (n c : Nat) : (Builtin.append_ #[t, t] ty #[.slice (some ad) n n, .slice (some a2) 0 c]).run P w = .ok (.slice (some ad) n n) w := by
  obtain ⟨ht, ⟨i, z, hi, hz, hs, hby, hzs⟩, hs0, hb0⟩ := he.ok
  have hfc := run_firstCells_some (P := P) w i.size 0 a2 0 c [] (by simp) (by simp)
  simp [Builtin.append_, run_underlying ht, sizeOf, typeInfo, hi, Builtin.lenOf, hfc, storeCells]
theorem ow_qappend {s x : Operand} {t e : TypeId} {sz bytes : Nat} {v : Value} {n : Nat} {xs : List Value} (HM : Mod B w0 (qrow v e sz n xs :: H) w) (hs : Ev a s v)
    {A : Option Addr} {m c : Nat} {news : List Value} (hx : Ev a x (.slice A m c)) (he : Elem P t e sz bytes) (hnews : Reads w A news) (hl : news.length = m * sz) (h1 : Ones news) (hxs : Ones xs) (hb : (n + m) * bytes ≤ 140737488355328)
    (k : ∀ v' w', Mod B w0 (qrow v' e sz (n + m) (xs ++ news) :: H) w' → K (a.put dst v') w') :
    Oper.wp P ⟨dst, .call { callee := .builtin .append, args := #[s, x], argTypes := #[t, t] }, ty, pos, after, gd⟩ a w K Q := by
  have hrun : ∃ v' w', (Builtin.append_ #[t, t] ty #[v, .slice A m c]).run P w = .ok v' w' ∧ Mod B w0 (qrow v' e sz (n + m) (xs ++ news) :: H) w' := by
    obtain ⟨F1, g1, g2, g3⟩ := HM.sat
    have hm0 : A = none → m = 0 ∧ news = [] := by
      rintro rfl
      have hn : news = [] := by
        cases news with
        | nil => rfl
        | cons y ys =>
          obtain ⟨ad, h, _⟩ := hnews 0 _ rfl
          cases h
      subst hn
      obtain ⟨_, _, hs0, _⟩ := he.ok
      have h2 : m * sz = 0 := by simpa using hl.symm
      rcases Nat.mul_eq_zero.1 h2 with h2 | h2
      · exact ⟨h2, rfl⟩
      · omega
    rcases g2 with g2 | ⟨ad, rfl, hxl, g2⟩
    · have HM1 : Mod B w0 (row v e sz n xs :: H) w := ⟨HM.below, HM.low, F1, g1, g2, g3⟩
      cases A with
      | some ad =>
        obtain ⟨v', w', hr, hm⟩ := run_append_row (P := P) (t := t) (ty := ty) (c := c) HM1 hl hnews.at h1 hb
        exact ⟨v', w', hr, hm.toQ⟩
      | none =>
        obtain ⟨rfl, rfl⟩ := hm0 rfl
        refine ⟨v, w, run_append_none (HM1.rowOwn v), ?_⟩
        rw [Nat.add_zero, List.append_nil]
        exact HM
    · by_cases hz : m = 0
      · subst hz
        have hn : news = [] := List.eq_nil_of_length_eq_zero (by rw [hl, Nat.zero_mul])
        subst hn
        rw [Nat.add_zero, List.append_nil]
        cases A with
        | none => exact ⟨_, w, run_full_none _ _ _, HM⟩
        | some a2 => exact ⟨_, w, run_full_zero _ _ _ _, HM⟩
      · cases A with
        | none => exact absurd (hm0 rfl).1 hz
        | some a2 =>
          obtain ⟨ht, ⟨i, z, hi, hzz, hsz, hby, hzs⟩, hs0, hb0⟩ := he.ok
          have hnm : n + m ≤ 140737488355328 := Nat.le_trans (Nat.le_mul_of_pos_right _ hb0) hb
          obtain ⟨v', w', hr, h2, h3⟩ := run_append_arg_grows (P := P) w t ty e i z sz bytes ht hi hzz hsz hby hzs hs0 ad n n xs hxl g2.2.at a2 m c news hl hnews.at (by omega) (by simp only [maxLen]; omega) hb
          refine ⟨v', w', hr, Mod.toQ ?_⟩
          have hbel : Below w.heap.size w w' := (Below.refl _ _).grown h3 (Nat.le_refl _) (fun k hk => by cases hk)
          have h4 := h2
          refine (Mod.grow (h := (⟨HM.below, HM.low, g3.up (fun b hb => hb.1)⟩ : Mod B w0 H w)) hbel (row v' e sz (n + m) (xs ++ news)) ⟨fun k hk => ?_, ?_⟩)
          · exact h2.lt k hk
          · refine ⟨h4.1, ?_⟩
            rcases h4.2 with hq | ⟨g, cap, cur, q1, q2, q3⟩
            · exact .inl hq
            · exact .inr ⟨g, cap, cur, q1, Nat.zero_le _, q3⟩
  obtain ⟨v', w', hrun, hm⟩ := hrun
  unfold Oper.wp execOp
  simp only [resolve, invoke, builtin, Sem.run_bind, Sem.run_pure, Result.andThen_ok, List.map_toArray, List.map_cons, List.map_nil, hs.eq, hx.eq, hrun]
  exact k v' w' hm
end
end Go.Proofs.Ytghfoooldcbdnaa.SL
set_option linter.unusedVariables false
set_option linter.unusedSimpArgs false
namespace Go.Proofs.Ytghfoooldcbdnaa
open Go.RowKit Go.Proofs.Ytghfoooldcbdnaa.SL Go.Proofs.YtghfoooldcbdnaaW.PrintWords

/-- What a receiver keeps: the session, the last batch, what was refused of the last sixteen, how many were applied. -/
structure RS where
  (s l : Int) (fs : List Int) (d : Int)
abbrev u64s (l : List Int) : List Value := l.map (Value.int .u64)
instance u64s_ones (l : List Int) : Ones (u64s l) := ⟨by intro u hu; obtain ⟨x, _, rfl⟩ := List.mem_map.1 hu; rfl⟩
abbrev RS.cells (r : RS) : List Value := .int .i64 r.s :: .int .i64 r.l :: (u64s r.fs ++ [.int .i64 r.d])
def RS.new : RS := ⟨-1, 0, List.replicate 16 0, 0⟩
theorem seg_end (fs : List Value) (x : Value) (h : fs.length = 16) : SegAt (fs ++ [x]) 16 1 [x] := ⟨⟨by rw [← h]; simp, by simp [h]⟩⟩
theorem put_end (fs : List Value) (x y : Value) (h : fs.length = 16) : PutAt (fs ++ [x]) 16 [y] (fs ++ [y]) := ⟨⟨by rw [← h]; simp, by simp [h]⟩⟩

set_option maxHeartbeats 1000000 in
set_option maxRecDepth 100000 in
theorem New_calls (w : World) : Calls Try.prog 20 #[] w fun e w' => ∃ g, e = .returned (.pointer (some ⟨g, 0, none⟩)) ∧ Mod w.heap.size w [cells g RS.new.cells 127] w' := by
  have HM := Mod.start w
  go_enter Try.func20, Try.ntmps20
  go_wp2_with (first | go_step3 | ((with_reducible apply sl_want); exact rfl) | ((with_reducible apply sl_load HM); exact rfl; infer_instance; infer_instance; (try simp only [Act.put, List.setIfInBounds_toArray, List.set_cons_zero, List.set_cons_succ])) | ((with_reducible apply sl_store HM); exact rfl; (first | exact Ev.tmp rfl | exact Ev.const); infer_instance; infer_instance; infer_instance; clear HM; (try clear wq); intro wq HM; (try simp only [Act.put, List.setIfInBounds_toArray, List.set_cons_zero, List.set_cons_succ])) | ((with_reducible apply sl_loadR); exact rfl; assumption; (try simp only [Act.put, List.setIfInBounds_toArray, List.set_cons_zero, List.set_cons_succ])) | ((with_reducible refine gate_dst (N := 2) rfl ?_); (with_reducible apply sl_box HM); (first | exact Ev.tmp rfl | exact Ev.const); exact rfl; clear HM; (try clear wq); intro g2 wq HM; (try simp only [Act.put, List.setIfInBounds_toArray, List.set_cons_zero, List.set_cons_succ])))
  exact sl_ret1 rfl (vals_tmp rfl .nil) ⟨_, rfl, HM⟩

set_option maxHeartbeats 1000000 in
set_option maxRecDepth 100000 in
theorem Last_calls (g : Nat) (r : RS) (B : Nat) (w0 w : World) (H : List As) (HM : Mod B w0 (cells g r.cells 127 :: H) w) : Calls Try.prog 25 #[.pointer (some ⟨g, 0, none⟩)] w fun e w' => e = .returned (.tuple #[.int .i64 r.s, .int .i64 r.l]) ∧ Mod B w0 (cells g r.cells 127 :: H) w' := by
  go_enter Try.func25, Try.ntmps25
  go_wp2_with (first | go_step3 | ((with_reducible apply sl_want); exact rfl) | ((with_reducible apply sl_load HM); exact rfl; infer_instance; infer_instance; (try simp only [Act.put, List.setIfInBounds_toArray, List.set_cons_zero, List.set_cons_succ])) | ((with_reducible apply sl_store HM); exact rfl; (first | exact Ev.tmp rfl | exact Ev.const); infer_instance; infer_instance; infer_instance; clear HM; (try clear wq); intro wq HM; (try simp only [Act.put, List.setIfInBounds_toArray, List.set_cons_zero, List.set_cons_succ])) | ((with_reducible apply sl_loadR); exact rfl; assumption; (try simp only [Act.put, List.setIfInBounds_toArray, List.set_cons_zero, List.set_cons_succ])))
  refine wp_drawnS HM [] [(0, 1), (1, 1), (2, 1), (3, 0), (4, 1), (5, 1), (6, 1), (7, 0), (8, 1), (9, 1)] (by kernel_rfl) (by kernel_rfl) (by kernel_rfl) (by kernel_rfl) (fun _ _ d _ _ h => by cases d <;> exact h) ?_; clear HM; (try clear wq); intro wq HM
  repeat (first | ((with_reducible apply t_move); exact rfl; exact rfl; (first | exact Ev.tmp rfl | exact Ev.const); (try simp only [Act.put, List.setIfInBounds_toArray, List.set_cons_zero, List.set_cons_succ])) | ((with_reducible apply t_assign); exact rfl; exact rfl; (first | exact Ev.tmp rfl | exact Ev.const); (try simp only [Act.put, List.setIfInBounds_toArray, List.set_cons_zero, List.set_cons_succ])) | ((with_reducible apply t_load HM); exact rfl; exact rfl; exact rfl; infer_instance; infer_instance; infer_instance; (try simp only [Act.put, List.setIfInBounds_toArray, List.set_cons_zero, List.set_cons_succ])) | ((with_reducible apply t_skip); exact rfl; exact rfl; (try simp only [Act.put, List.setIfInBounds_toArray, List.set_cons_zero, List.set_cons_succ])) | ((with_reducible apply t_skip0 HM); exact rfl; exact rfl; infer_instance; (try simp only [Act.put, List.setIfInBounds_toArray, List.set_cons_zero, List.set_cons_succ])) | ((with_reducible apply t_skip2 HM); exact rfl; exact rfl; infer_instance; (try simp only [Act.put, List.setIfInBounds_toArray, List.set_cons_zero, List.set_cons_succ])) | ((with_reducible apply t_pure); exact rfl; exact rfl; (focus (intro wv; go_simp; (try (go_ints; (try go_simp))); (first | done | rfl | (rw [if_pos (by omega)]; done)))); (try simp only [Act.put, List.setIfInBounds_toArray, List.set_cons_zero, List.set_cons_succ])))
  refine t_nil ?_
  go_wp2_with (fail)
  exact sl_ret rfl (by simp) (vals_tmp rfl (vals_tmp rfl .nil)) ⟨rfl, HM⟩

set_option maxHeartbeats 1000000 in
set_option maxRecDepth 100000 in
theorem Done_calls (g : Nat) (r : RS) (hf : r.fs.length = 16) (B : Nat) (w0 w : World) (H : List As) (HM : Mod B w0 (cells g r.cells 127 :: H) w) : Calls Try.prog 26 #[.pointer (some ⟨g, 0, none⟩)] w fun e w' => e = .returned (.int .i64 r.d) ∧ Mod B w0 (cells g r.cells 127 :: H) w' := by
  haveI := seg_end (u64s r.fs) (.int .i64 r.d) (by simpa using hf)
  go_enter Try.func26, Try.ntmps26
  go_wp2_with (first | go_step3 | ((with_reducible apply sl_want); exact rfl) | ((with_reducible apply sl_load HM); exact rfl; infer_instance; infer_instance; (try simp only [Act.put, List.setIfInBounds_toArray, List.set_cons_zero, List.set_cons_succ])) | ((with_reducible apply sl_store HM); exact rfl; (first | exact Ev.tmp rfl | exact Ev.const); infer_instance; infer_instance; infer_instance; clear HM; (try clear wq); intro wq HM; (try simp only [Act.put, List.setIfInBounds_toArray, List.set_cons_zero, List.set_cons_succ])) | ((with_reducible apply sl_loadR); exact rfl; assumption; (try simp only [Act.put, List.setIfInBounds_toArray, List.set_cons_zero, List.set_cons_succ])))
  exact sl_ret1 rfl (vals_tmp rfl .nil) ⟨rfl, HM⟩

/-- What is known of a batch by its number. -/
def RS.known (r : RS) (n : Int) : Int := if n ≤ r.l - 16 then 18446744073709551615 else r.fs.getD (n % 16).toNat 0
theorem seg_ix (a b : Value) (fs : List Int) (x : Value) (h : fs.length = 16) (i : Nat) (hi : i < 16) : SegAt (a :: b :: (u64s fs ++ [x])) (2 + i) 1 [.int .u64 (fs.getD i 0)] := by
  refine ⟨⟨?_, by simp; omega⟩⟩
  have h1 : (u64s fs ++ [x]).drop i = .int .u64 (fs.getD i 0) :: (u64s fs ++ [x]).drop (i + 1) := by
    rw [List.drop_eq_getElem_cons (by simp; omega), List.getElem_append_left (by simp; omega)]
    simp [List.getD_eq_getElem?_getD, List.getElem?_eq_getElem (show i < fs.length by omega)]
  rw [Nat.add_comm 2 i, List.drop_succ_cons, List.drop_succ_cons, h1]
  rfl

set_option maxHeartbeats 1000000 in
set_option maxRecDepth 100000 in
theorem known_calls (g : Nat) (r : RS) (hf : r.fs.length = 16) (h0 : 0 ≤ r.l) (h1 : r.l ≤ 4611686018427387904) (n : Int) (hn : 0 ≤ n) (B : Nat) (w0 w : World) (H : List As) (HM : Mod B w0 (cells g r.cells 127 :: H) w) : Calls Try.prog 64 #[.pointer (some ⟨g, 0, none⟩), .int .i64 n] w fun e w' => e = .returned (.int .u64 (r.known n)) ∧ Mod B w0 (cells g r.cells 127 :: H) w' := by
  by_cases hc : n ≤ r.l - 16
  · go_enter Try.func64, Try.ntmps64
    go_wp2_with (first | go_step3 | ((with_reducible apply sl_want); exact rfl) | ((with_reducible apply sl_load HM); exact rfl; infer_instance; infer_instance; (try simp only [Act.put, List.setIfInBounds_toArray, List.set_cons_zero, List.set_cons_succ])) | ((with_reducible apply sl_store HM); exact rfl; (first | exact Ev.tmp rfl | exact Ev.const); infer_instance; infer_instance; infer_instance; clear HM; (try clear wq); intro wq HM; (try simp only [Act.put, List.setIfInBounds_toArray, List.set_cons_zero, List.set_cons_succ])) | ((with_reducible apply sl_loadR); exact rfl; assumption; (try simp only [Act.put, List.setIfInBounds_toArray, List.set_cons_zero, List.set_cons_succ])))
    refine sl_ret1 rfl (vals_tmp rfl .nil) ⟨?_, HM⟩
    unfold RS.known
    rw [if_pos hc]
  · haveI := seg_ix (.int .i64 r.s) (.int .i64 r.l) r.fs (.int .i64 r.d) hf (n % 16).toNat (by omega)
    have hm : n.tmod 16 = n % 16 := by rw [Int.tmod_eq_emod_of_nonneg hn]
    go_enter Try.func64, Try.ntmps64
    go_wp2_with (first | go_step3 | ((with_reducible apply sl_want); exact rfl) | ((with_reducible apply sl_load HM); exact rfl; infer_instance; infer_instance; (try simp only [Act.put, List.setIfInBounds_toArray, List.set_cons_zero, List.set_cons_succ])) | ((with_reducible apply sl_store HM); exact rfl; (first | exact Ev.tmp rfl | exact Ev.const); infer_instance; infer_instance; infer_instance; clear HM; (try clear wq); intro wq HM; (try simp only [Act.put, List.setIfInBounds_toArray, List.set_cons_zero, List.set_cons_succ])) | ((with_reducible apply sl_loadR); exact rfl; assumption; (try simp only [Act.put, List.setIfInBounds_toArray, List.set_cons_zero, List.set_cons_succ])))
    refine sl_ret1 rfl (vals_tmp rfl .nil) ⟨?_, HM⟩
    unfold RS.known
    rw [if_neg (by omega)]
    rfl

/-- What a function that is handed to Take does: it is asked of one record after the other. -/
structure FnSpec (B : Nat) (w0 : World) (n : FuncId) (caps : Array Value) (J : List Rec → List As → Prop) (ans : Nat → Bool) : Prop where
  run : ∀ (args : Array Value) (w : World), Sem.run Try.prog (callFunc n args) w = .ok (.enter n args) w
  spec : ∀ (w : World) (H G : List As) (done : List Rec) (x : Rec), done.length < 64 → J done G → Mod B w0 (H ++ G) w →
    Calls Try.prog n (#[.agg x.cells.toArray] ++ caps) w fun e w' => e = .returned (.bool (ans done.length)) ∧ ∃ G', J (done ++ [x]) G' ∧ Mod B w0 (H ++ G') w'
/-- The bits of the first k records. -/
def bitsUp (ans : Nat → Bool) : Nat → Int
  | 0 => 0
  | k + 1 => if ans k then bitsUp ans k else bitsUp ans k + 2 ^ k
theorem bitsUp_range (ans : Nat → Bool) : ∀ k, 0 ≤ bitsUp ans k ∧ bitsUp ans k < 2 ^ k
  | 0 => by simp [bitsUp]
  | k + 1 => by
    have := bitsUp_range ans k
    unfold bitsUp
    have e : (2 : Int) ^ (k + 1) = 2 * 2 ^ k := by rw [Int.pow_succ]; omega
    split <;> omega
theorem or_pow {x : Int} {k : Nat} (hk : k < 64) (h0 : 0 ≤ x) (h1 : x < 2 ^ k) : bits .or .u64 x (IntKind.u64.wrap (2 ^ k)) = x + 2 ^ k := by
  obtain ⟨n, rfl⟩ := Int.eq_ofNat_of_zero_le h0
  have hn : n < 2 ^ k := by exact_mod_cast h1
  have hk2 : 2 ^ k ≤ 2 ^ 63 := Nat.pow_le_pow_right (by omega) (by omega)
  have e1 : IntKind.u64.wrap (2 ^ k) = ((2 ^ k : Nat) : Int) := by
    have : ((2 ^ k : Nat) : Int) = (2 : Int) ^ k := by push_cast; rfl
    rw [← this]
    show (((2 ^ k : Nat) : Int) % 18446744073709551616) = _
    omega
  rw [e1]
  have e2 : bits .or .u64 (n : Int) ((2 ^ k : Nat) : Int) = IntKind.u64.wrap ((BitVec.ofInt 64 (n : Int) ||| BitVec.ofInt 64 ((2 ^ k : Nat) : Int)).toNat) := rfl
  rw [e2, BitVec.toNat_or, BitVec.ofInt_natCast, BitVec.ofInt_natCast, BitVec.toNat_ofNat, BitVec.toNat_ofNat, Nat.mod_eq_of_lt (by omega), Nat.mod_eq_of_lt (by omega)]
  have e3 : n ||| 2 ^ k = 2 ^ k + n := by
    have := Nat.two_pow_add_eq_or_of_lt hn 1
    rw [Nat.mul_one] at this
    rw [this, Nat.or_comm]
  rw [e3]
  show (((2 ^ k + n : Nat) : Int) % 18446744073709551616) = _
  push_cast
  have : ((2 ^ k : Nat) : Int) = (2 : Int) ^ k := by push_cast; rfl
  omega
abbrev RS.apply (r : RS) (n bits : Int) : RS := ⟨r.s, n, r.fs.set (n % 16).toNat bits, r.d + 1⟩
theorem put_ix (a b : Value) (fs : List Int) (x : Value) (h : fs.length = 16) (i : Nat) (hi : i < 16) (y : Int) : PutAt (a :: b :: (u64s fs ++ [x])) (2 + i) [.int .u64 y] (a :: b :: (u64s (fs.set i y) ++ [x])) := by
  refine ⟨⟨?_, by simp; omega⟩⟩
  rw [Nat.add_comm 2 i, show i + 2 + [Value.int .u64 y].length = (i + 1) + 2 from rfl]
  simp only [List.take_succ_cons, List.drop_succ_cons, List.cons_append]
  have h1 : u64s (fs.set i y) ++ [x] = (u64s fs ++ [x]).set i (.int .u64 y) := by
    rw [List.set_append, if_pos (by simp; omega), u64s, List.map_set]
  rw [h1, List.set_eq_take_append_cons_drop, if_pos (by simp; omega)]
  simp
set_option maxHeartbeats 1000000 in
set_option maxRecDepth 100000 in
theorem apply_calls (B : Nat) (w0 : World) (fn : FuncId) (caps : Array Value) (J : List Rec → List As → Prop) (ans : Nat → Bool) (hfn : FnSpec B w0 fn caps J ans) (g : Nat) (r : RS) (hf : r.fs.length = 16) (h0 : 0 ≤ r.d) (h1 : r.d ≤ 1000000)
    (s n : Int) (l : List Rec) (A : Option Addr) (c : Nat) (hn : 0 ≤ n) (hl : l.length ≤ 64) (w : World) (H G : List As) (hJ : J [] G)
    (hr : ∀ w, Mod B w0 H w → Reads w A (recs l)) (HM : Mod B w0 (cells g r.cells 127 :: (H ++ G)) w) :
    Calls Try.prog 63 #[.pointer (some ⟨g, 0, none⟩), .agg #[.int .i64 s, .int .i64 n, .slice A l.length c], .func (.func fn) #[] caps] w fun e w' => e = .returned (.tuple #[]) ∧ ∃ G', J l G' ∧ Mod B w0 (cells g (r.apply n (bitsUp ans l.length)).cells 127 :: (H ++ G')) w' := by
  have HR := Aside0.mk hr
  have HN := Aside0.mk hfn
  clear hr hfn
  go_enter Try.func63, Try.ntmps63
  go_wp2_with (first | go_step3 | ((with_reducible apply sl_want); exact rfl) | ((with_reducible apply sl_load HM); exact rfl; infer_instance; infer_instance; (try simp only [Act.put, List.setIfInBounds_toArray, List.set_cons_zero, List.set_cons_succ])) | ((with_reducible apply sl_store HM); exact rfl; (first | exact Ev.tmp rfl | exact Ev.const); infer_instance; infer_instance; infer_instance; clear HM; (try clear wq); intro wq HM; (try simp only [Act.put, List.setIfInBounds_toArray, List.set_cons_zero, List.set_cons_succ])) | ((with_reducible apply sl_loadR); exact rfl; assumption; (try simp only [Act.put, List.setIfInBounds_toArray, List.set_cons_zero, List.set_cons_succ])) | ((with_reducible refine gate_dst (N := 4) rfl ?_); (with_reducible apply sl_box HM); (first | exact Ev.tmp rfl | exact Ev.const); exact rfl; clear HM; (try clear wq); intro g4 wq HM; (try simp only [Act.put, List.setIfInBounds_toArray, List.set_cons_zero, List.set_cons_succ])) | ((with_reducible refine gate_dst (N := 8) rfl ?_); (with_reducible apply sl_alloc HM); infer_instance; clear HM; (try clear wq); intro g8 wq HM; (try simp only [Act.put, List.setIfInBounds_toArray, List.set_cons_zero, List.set_cons_succ])))
  go_loopw [6, 12] (fun v6 v12 wr => ∃ k : Nat, v12 = .int .i64 k ∧ k ≤ l.length ∧ v6 = .int .u64 (bitsUp ans k) ∧ ∃ G', J (l.take k) G' ∧ Aside0 (Mod B w0 (cells g4 [.int .i64 s, .int .i64 n, .slice A l.length c] 61 :: cells g r.cells 127 :: (H ++ G')) wr)) (fun _ v12 _ => l.length - (intOf v12).toNat)
  case atStart => exact ⟨0, rfl, by omega, rfl, G, hJ, ⟨HM⟩⟩
  case round =>
    obtain ⟨k, rfl, hk, rfl, G', hJ', HM0⟩ := hrel
    clear HM
    have HM := HM0.out
    clear HM0
    by_cases hlt : k < l.length
    · have hr := HR.out _ HM.sub
      obtain ⟨ad, rfl⟩ := hr.addr (by rw [flat_len rec_len]; omega)
      obtain ⟨x, hrk⟩ : ∃ r, l[k]? = some r := ⟨_, List.getElem?_eq_getElem hlt⟩
      have hld := Aside0.mk (load_seg (P := Try.prog) (t := 53) hr (k * 8) (flat_seg rec_len l k x hrk) (rec_len x))
      have HK := Aside0.mk hrk
      clear hrk hr
      have hk64 : (l.take k).length < 64 := by rw [List.length_take]; omega
      cases ha : ans k with
      | true =>
        go_wp2_with (first | (rw [HN.out.run, Oper.upon_enter]; refine (HN.out.spec _ _ _ _ _ hk64 hJ' (HM.split G')).mono ?_; rintro e wq ⟨rfl, G2, hJ2, HM1⟩; clear HM; have HM := HM1; clear HM1; simp only [List.cons_append] at HM; rw [show (l.take k).length = k from by rw [List.length_take]; omega, ha]; dsimp only) | go_step3 | ((with_reducible apply sl_want); exact rfl) | ((with_reducible apply sl_load HM); exact rfl; infer_instance; infer_instance; (try simp only [Act.put, List.setIfInBounds_toArray, List.set_cons_zero, List.set_cons_succ])) | ((with_reducible apply sl_store HM); exact rfl; (first | exact Ev.tmp rfl | exact Ev.const); infer_instance; infer_instance; infer_instance; clear HM; (try clear wq); intro wq HM; (try simp only [Act.put, List.setIfInBounds_toArray, List.set_cons_zero, List.set_cons_succ])) | ((with_reducible apply sl_loadR); exact rfl; assumption; (try simp only [Act.put, List.setIfInBounds_toArray, List.set_cons_zero, List.set_cons_succ])) | ((with_reducible refine gate_dst (N := 4) rfl ?_); (with_reducible apply sl_box HM); (first | exact Ev.tmp rfl | exact Ev.const); exact rfl; clear HM; (try clear wq); intro g4 wq HM; (try simp only [Act.put, List.setIfInBounds_toArray, List.set_cons_zero, List.set_cons_succ])) | ((with_reducible refine gate_dst (N := 8) rfl ?_); (with_reducible apply sl_alloc HM); infer_instance; clear HM; (try clear wq); intro g8 wq HM; (try simp only [Act.put, List.setIfInBounds_toArray, List.set_cons_zero, List.set_cons_succ])))
        have e1 : l.take k ++ [x] = l.take (k + 1) := by rw [List.take_add_one, HK.out]; rfl
        rw [e1] at hJ2
        exact ⟨⟨k + 1, rfl, hlt, by simp only [bitsUp, ha, if_true], _, hJ2, ⟨HM.sub⟩⟩, by simp only [intOf]; omega⟩
      | false =>
        go_wp2_with (first | (rw [HN.out.run, Oper.upon_enter]; refine (HN.out.spec _ _ _ _ _ hk64 hJ' (HM.split G')).mono ?_; rintro e wq ⟨rfl, G2, hJ2, HM1⟩; clear HM; have HM := HM1; clear HM1; simp only [List.cons_append] at HM; rw [show (l.take k).length = k from by rw [List.length_take]; omega, ha]; dsimp only) | go_step3 | ((with_reducible apply sl_want); exact rfl) | ((with_reducible apply sl_load HM); exact rfl; infer_instance; infer_instance; (try simp only [Act.put, List.setIfInBounds_toArray, List.set_cons_zero, List.set_cons_succ])) | ((with_reducible apply sl_store HM); exact rfl; (first | exact Ev.tmp rfl | exact Ev.const); infer_instance; infer_instance; infer_instance; clear HM; (try clear wq); intro wq HM; (try simp only [Act.put, List.setIfInBounds_toArray, List.set_cons_zero, List.set_cons_succ])) | ((with_reducible apply sl_loadR); exact rfl; assumption; (try simp only [Act.put, List.setIfInBounds_toArray, List.set_cons_zero, List.set_cons_succ])) | ((with_reducible refine gate_dst (N := 4) rfl ?_); (with_reducible apply sl_box HM); (first | exact Ev.tmp rfl | exact Ev.const); exact rfl; clear HM; (try clear wq); intro g4 wq HM; (try simp only [Act.put, List.setIfInBounds_toArray, List.set_cons_zero, List.set_cons_succ])) | ((with_reducible refine gate_dst (N := 8) rfl ?_); (with_reducible apply sl_alloc HM); infer_instance; clear HM; (try clear wq); intro g8 wq HM; (try simp only [Act.put, List.setIfInBounds_toArray, List.set_cons_zero, List.set_cons_succ])))
        have e1 : l.take k ++ [x] = l.take (k + 1) := by rw [List.take_add_one, HK.out]; rfl
        rw [e1] at hJ2
        refine ⟨⟨k + 1, rfl, hlt, ?_, _, hJ2, ⟨HM.sub⟩⟩, by simp only [intOf]; omega⟩
        have hb := bitsUp_range ans k
        rw [or_pow (by omega) hb.1 hb.2]
        simp only [bitsUp, ha, Bool.false_eq_true, if_false]
    · have hkl : k = l.length := by omega
      subst hkl
      rw [List.take_length] at hJ'
      clear hlt hk
      have hm : n.tmod 16 = n % 16 := by rw [Int.tmod_eq_emod_of_nonneg hn]
      haveI := put_ix (.int .i64 r.s) (.int .i64 n) r.fs (.int .i64 r.d) hf (n % 16).toNat (by omega) (bitsUp ans l.length)
      haveI := seg_end (u64s (r.fs.set (n % 16).toNat (bitsUp ans l.length))) (.int .i64 r.d) (by simpa using hf)
      haveI := put_end (u64s (r.fs.set (n % 16).toNat (bitsUp ans l.length))) (.int .i64 r.d) (.int .i64 (r.d + 1)) (by simpa using hf)
      go_wp2_with (first | go_step3 | ((with_reducible apply sl_want); exact rfl) | ((with_reducible apply sl_load HM); exact rfl; infer_instance; infer_instance; (try simp only [Act.put, List.setIfInBounds_toArray, List.set_cons_zero, List.set_cons_succ])) | ((with_reducible apply sl_store HM); exact rfl; (first | exact Ev.tmp rfl | exact Ev.const); infer_instance; infer_instance; infer_instance; clear HM; (try clear wq); intro wq HM; (try simp only [Act.put, List.setIfInBounds_toArray, List.set_cons_zero, List.set_cons_succ])) | ((with_reducible apply sl_loadR); exact rfl; assumption; (try simp only [Act.put, List.setIfInBounds_toArray, List.set_cons_zero, List.set_cons_succ])) | ((with_reducible refine gate_dst (N := 4) rfl ?_); (with_reducible apply sl_box HM); (first | exact Ev.tmp rfl | exact Ev.const); exact rfl; clear HM; (try clear wq); intro g4 wq HM; (try simp only [Act.put, List.setIfInBounds_toArray, List.set_cons_zero, List.set_cons_succ])) | ((with_reducible refine gate_dst (N := 8) rfl ?_); (with_reducible apply sl_alloc HM); infer_instance; clear HM; (try clear wq); intro g8 wq HM; (try simp only [Act.put, List.setIfInBounds_toArray, List.set_cons_zero, List.set_cons_succ])))
      refine wp_drawnS HM [10] [(0, 1), (1, 1), (2, 1), (3, 1), (4, 0), (5, 1), (6, 1), (7, 1), (8, 1), (9, 1), (10, 3)] (by kernel_rfl) (by kernel_rfl) (by kernel_rfl) (by kernel_rfl) (fun _ _ d _ _ h => by cases d <;> exact h) ?_; clear HM; (try clear wq); intro wq HM
      repeat (first | ((with_reducible apply t_move); exact rfl; exact rfl; (first | exact Ev.tmp rfl | exact Ev.const); (try simp only [Act.put, List.setIfInBounds_toArray, List.set_cons_zero, List.set_cons_succ])) | ((with_reducible apply t_assign); exact rfl; exact rfl; (first | exact Ev.tmp rfl | exact Ev.const); (try simp only [Act.put, List.setIfInBounds_toArray, List.set_cons_zero, List.set_cons_succ])) | ((with_reducible apply t_load HM); exact rfl; exact rfl; exact rfl; infer_instance; infer_instance; infer_instance; (try simp only [Act.put, List.setIfInBounds_toArray, List.set_cons_zero, List.set_cons_succ])) | ((with_reducible apply t_skip); exact rfl; exact rfl; (try simp only [Act.put, List.setIfInBounds_toArray, List.set_cons_zero, List.set_cons_succ])) | ((with_reducible apply t_skip0 HM); exact rfl; exact rfl; infer_instance; (try simp only [Act.put, List.setIfInBounds_toArray, List.set_cons_zero, List.set_cons_succ])) | ((with_reducible apply t_skip2 HM); exact rfl; exact rfl; infer_instance; (try simp only [Act.put, List.setIfInBounds_toArray, List.set_cons_zero, List.set_cons_succ])) | ((with_reducible apply t_pure); exact rfl; exact rfl; (focus (intro wv; go_simp; (try (go_ints; (try go_simp))); (first | done | rfl | (rw [if_pos (by omega)]; done)))); (try simp only [Act.put, List.setIfInBounds_toArray, List.set_cons_zero, List.set_cons_succ])) | ((with_reducible apply t_eff); exact rfl; exact rfl; intro K hK; (with_reducible apply ow_store HM); exact rfl; (first | exact Ev.tmp rfl | exact Ev.const); infer_instance; infer_instance; infer_instance; clear HM; (try clear wq); intro  wq HM; refine hK _ _ _ HM inferInstance ?_; clear hK K; (try simp only [Act.put, List.setIfInBounds_toArray, List.set_cons_zero, List.set_cons_succ])) | ((with_reducible apply t_last); exact rfl; exact rfl; intro K hK; (with_reducible apply ow_store HM); exact rfl; (first | exact Ev.tmp rfl | exact Ev.const); infer_instance; infer_instance; infer_instance; clear HM; (try clear wq); intro  wq HM; refine hK _ _ ?_; clear hK K; (try simp only [Act.put, List.setIfInBounds_toArray, List.set_cons_zero, List.set_cons_succ])))
      refine t_nil ?_
      go_wp2_with (first | go_step3 | ((with_reducible apply sl_want); exact rfl) | ((with_reducible apply sl_load HM); exact rfl; infer_instance; infer_instance; (try simp only [Act.put, List.setIfInBounds_toArray, List.set_cons_zero, List.set_cons_succ])) | ((with_reducible apply sl_store HM); exact rfl; (first | exact Ev.tmp rfl | exact Ev.const); infer_instance; infer_instance; infer_instance; clear HM; (try clear wq); intro wq HM; (try simp only [Act.put, List.setIfInBounds_toArray, List.set_cons_zero, List.set_cons_succ])) | ((with_reducible apply sl_loadR); exact rfl; assumption; (try simp only [Act.put, List.setIfInBounds_toArray, List.set_cons_zero, List.set_cons_succ])) | ((with_reducible refine gate_dst (N := 4) rfl ?_); (with_reducible apply sl_box HM); (first | exact Ev.tmp rfl | exact Ev.const); exact rfl; clear HM; (try clear wq); intro g4 wq HM; (try simp only [Act.put, List.setIfInBounds_toArray, List.set_cons_zero, List.set_cons_succ])) | ((with_reducible refine gate_dst (N := 8) rfl ?_); (with_reducible apply sl_alloc HM); infer_instance; clear HM; (try clear wq); intro g8 wq HM; (try simp only [Act.put, List.setIfInBounds_toArray, List.set_cons_zero, List.set_cons_succ])))
      exact bodyPost_end (results_none rfl _ _ _) rfl ⟨rfl, G', hJ', HM.sub⟩

end Go.Proofs.Ytghfoooldcbdnaa
