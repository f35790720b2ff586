/-
  PART 2 OF THE PROOF OF SyncinEnds: laid together from the proof's own texts: Sep, Ty, Ops, Ops2.
-/
import Derived.Test.YtghfoooldcbdnaaProg
import Derived.WalkSpells
import Derived.WalkLawsBesides
import Derived.Laws.BytesArg
import Derived.Laws.IdiomStrings
import Derived.Laws.MakeOwn
import Derived.Laws.OwnMore
import Derived.Test.YtghfoooldcbdnaaWWords
import Derived.Test.YtghfoooldcbdnaaWLast
set_option linter.unusedVariables false
set_option linter.unusedSimpArgs false
namespace Go.Proofs.Ytghfoooldcbdnaa.SL
open Go.RowKit Go.Proofs.YtghfoooldcbdnaaW.PrintWords Go.Proofs.YtghfoooldcbdnaaW.PrintLast

/-! ### 1. Assertions, lists of them, and what a world keeps -/
structure As where
  sat : (Nat → Prop) → World → Prop
  loc : ∀ {F : Nat → Prop} {w w' : World}, sat F w → (∀ b, F b → w'.heap[b]? = w.heap[b]?) → sat F w'
  up : ∀ {F G : Nat → Prop} {w : World}, sat F w → (∀ b, F b → G b) → sat G w

def Sat : List As → (Nat → Prop) → World → Prop
  | [], _, _ => True
  | A :: H, F, w => ∃ F1 : Nat → Prop, (∀ b, F1 b → F b) ∧ A.sat F1 w ∧ Sat H (fun b => F b ∧ ¬ F1 b) w

theorem Sat.up {w : World} : ∀ {H : List As} {F G : Nat → Prop}, Sat H F w → (∀ b, F b → G b) → Sat H G w
  | [], _, _, _, _ => trivial
  | _ :: _, _, _, ⟨F1, h1, h2, h3⟩, h => ⟨F1, fun b hb => h b (h1 b hb), h2, Sat.up h3 (fun b hb => ⟨h b hb.1, hb.2⟩)⟩

theorem Sat.loc {w w' : World} : ∀ {H : List As} {F : Nat → Prop}, Sat H F w → (∀ b, F b → w'.heap[b]? = w.heap[b]?) → Sat H F w'
  | [], _, _, _ => trivial
  | A :: _, _, ⟨F1, h1, h2, h3⟩, h => ⟨F1, h1, A.loc h2 (fun b hb => h b (h1 b hb)), Sat.loc h3 (fun b hb => h b hb.1)⟩

/-- Below B as w0 was; from B on the assertions of H hold, apart from one another. -/
structure Mod (B : Nat) (w0 : World) (H : List As) (w : World) : Prop where
  below : Below B w0 w
  low : B ≤ w0.heap.size
  sat : Sat H (fun b => B ≤ b ∧ b < w.heap.size) w

theorem Mod.start (w : World) : Mod w.heap.size w [] w := ⟨Below.refl _ _, Nat.le_refl _, trivial⟩

theorem Mod.le {B : Nat} {w0 w : World} {H : List As} (h : Mod B w0 H w) : B ≤ w.heap.size := Nat.le_trans h.low h.below.size

/-- A step that turns nothing that was there. -/
theorem Mod.step {B : Nat} {w0 w w' : World} {H : List As} (h : Mod B w0 H w) (hb : Below w.heap.size w w') : Mod B w0 H w' := by
  refine ⟨h.below.trans (hb.mono h.le), h.low, ?_⟩
  have h1 := Sat.loc (w' := w') h.sat (fun b hb' => hb.block b hb'.2)
  exact h1.up (fun b hb' => ⟨hb'.1, Nat.lt_of_lt_of_le hb'.2 hb.size⟩)

theorem Mod.drewN {B : Nat} {w0 w : World} {H : List As} (h : Mod B w0 H w) (n : Nat) : Mod B w0 H (w.drewN n) := h.step (pw_below_drewN (Below.refl _ _) n)
theorem Mod.drew {B : Nat} {w0 w : World} {H : List As} (h : Mod B w0 H w) : Mod B w0 H w.drew := h.step (Below.refl _ _).drew

/-- A step that makes blocks of its own, of which A is said. -/
theorem Mod.grow {B : Nat} {w0 w w' : World} {H : List As} (h : Mod B w0 H w) (hb : Below w.heap.size w w') (A : As)
    (hA : A.sat (fun b => w.heap.size ≤ b ∧ b < w'.heap.size) w') : Mod B w0 (A :: H) w' := by
  refine ⟨h.below.trans (hb.mono h.le), h.low, fun b => w.heap.size ≤ b ∧ b < w'.heap.size, fun b hb' => ⟨Nat.le_trans h.le hb'.1, hb'.2⟩, hA, ?_⟩
  have h1 := Sat.loc (w' := w') h.sat (fun b hb' => hb.block b hb'.2)
  exact h1.up (fun b hb' => ⟨⟨hb'.1, Nat.lt_of_lt_of_le hb'.2 hb.size⟩, fun hc => Nat.not_le.2 hb'.2 hc.1⟩)

/-- One block, whole. -/
def blk (g : Nat) (o : Obj) : As where
  sat F w := F g ∧ w.heap[g]? = some o
  loc h hk := ⟨h.1, (hk g h.1).trans h.2⟩
  up h hk := ⟨hk g h.1, h.2⟩

/-- A block of cells. -/
abbrev cells (g : Nat) (cs : List Value) (t : TypeId) : As := blk g (.cells cs.toArray t (0, 0))

/-! ### 2. Which block stands where -/
class Has (H : List As) (g : Nat) (o : outParam Obj) : Prop where
  get : ∀ {F : Nat → Prop} {w : World}, Sat H F w → F g ∧ w.heap[g]? = some o
instance Has.head {g : Nat} {o : Obj} {H : List As} : Has (blk g o :: H) g o := ⟨fun ⟨_, h1, h2, _⟩ => ⟨h1 _ h2.1, h2.2⟩⟩
instance (priority := low) Has.tail {g : Nat} {o : Obj} {A : As} {H : List As} [h : Has H g o] : Has (A :: H) g o := ⟨fun ⟨_, _, _, h3⟩ => ⟨(h.get h3).1.1, (h.get h3).2⟩⟩

/-- The block turned, nothing else. -/
class Upd (H : List As) (g : Nat) (o' : Obj) (H' : outParam (List As)) : Prop where
  mem : ∀ {F : Nat → Prop} {w : World}, Sat H F w → F g
  put : ∀ {F : Nat → Prop} {w w' : World}, Sat H F w → (∀ b, b ≠ g → w'.heap[b]? = w.heap[b]?) → w'.heap[g]? = some o' → Sat H' F w'
instance Upd.head {g : Nat} {o o' : Obj} {H : List As} : Upd (blk g o :: H) g o' (blk g o' :: H) where
  mem := fun ⟨_, h1, h2, _⟩ => h1 _ h2.1
  put := fun ⟨F1, h1, h2, h3⟩ hk hg => ⟨F1, h1, ⟨h2.1, hg⟩, h3.loc (fun b hb => hk b (fun e => hb.2 (e ▸ h2.1)))⟩
instance (priority := low) Upd.tail {g : Nat} {o' : Obj} {A : As} {H H' : List As} [h : Upd H g o' H'] : Upd (A :: H) g o' (A :: H') where
  mem := fun ⟨_, _, _, h3⟩ => (h.mem h3).1
  put := fun ⟨F1, h1, h2, h3⟩ hk hg => ⟨F1, h1, A.loc h2 (fun b hb => hk b (fun e => (h.mem h3).2 (e ▸ hb))), h.put h3 hk hg⟩

theorem Mod.has {B : Nat} {w0 w : World} {H : List As} (h : Mod B w0 H w) (g : Nat) {o : Obj} [hh : Has H g o] : w.heap[g]? = some o := (hh.get h.sat).2
theorem Mod.here {B : Nat} {w0 w : World} {H : List As} (h : Mod B w0 H w) (g : Nat) {o : Obj} [hh : Has H g o] : B ≤ g ∧ g < w.heap.size := (hh.get h.sat).1

/-- One own block has been turned. -/
theorem Mod.upd {B : Nat} {w0 w w' : World} {H H' : List As} (h : Mod B w0 H w) (g : Nat) (o' : Obj) [hu : Upd H g o' H']
    (h1 : w'.os = w.os) (h2 : w'.tape = w.tape) (h3 : w'.output = w.output) (h4 : w'.heap.size = w.heap.size)
    (h5 : ∀ b, b ≠ g → w'.heap[b]? = w.heap[b]?) (h6 : w'.heap[g]? = some o') : Mod B w0 H' w' := by
  have hg := hu.mem h.sat
  refine ⟨⟨h1.trans h.below.os, h2.trans h.below.tape, h3.trans h.below.output, by rw [h4]; exact h.below.size, fun k hk => ?_⟩, h.low, ?_⟩
  · rw [h5 k (fun e => by have := hg.1; omega)]; exact h.below.block k hk
  · rw [h4]; exact hu.put h.sat h5 h6

/-! ### 3. Lists of cells -/
class SetAt (l : List Value) (n : Nat) (v : Value) (l' : outParam (List Value)) : Prop where
  eq : l.set n v = l' ∧ n < l.length
instance SetAt.zero {x v : Value} {l : List Value} : SetAt (x :: l) 0 v (v :: l) := ⟨⟨rfl, by simp⟩⟩
instance SetAt.succ {x v : Value} {l l' : List Value} {n : Nat} [h : SetAt l n v l'] : SetAt (x :: l) (n + 1) v (x :: l') := ⟨⟨by rw [List.set_cons_succ, h.eq.1], by have := h.eq.2; simp; omega⟩⟩

/-- a type of one cell -/
class Sca (P : Program) (t : TypeId) : Prop where
  ok : (match P.underlying t with | some (.struct _) | some (.array _ _) | none => false | _ => true) = true ∧ (P.info? t).map (·.size) = some 1
/-- a struct or an array of n cells -/
class Agg (P : Program) (t : TypeId) (n : outParam Nat) : Prop where
  ok : (match P.underlying t with | some (.struct _) | some (.array _ _) => true | _ => false) = true ∧ (P.info? t).map (·.size) = some n


/-- A piece of a list: n cells from off on. -/
class SegAt (l : List Value) (off n : Nat) (s : outParam (List Value)) : Prop where
  eq : (l.drop off).take n = s ∧ off + n ≤ l.length
instance SegAt.nil {l : List Value} : SegAt l 0 0 [] := ⟨⟨by simp, by simp⟩⟩
instance SegAt.cons {x : Value} {l s : List Value} {n : Nat} [h : SegAt l 0 n s] : SegAt (x :: l) 0 (n + 1) (x :: s) := ⟨⟨by have := h.eq.1; simp at this ⊢; exact this, by have := h.eq.2; simp at this ⊢; omega⟩⟩
instance SegAt.succ {x : Value} {l s : List Value} {off n : Nat} [h : SegAt l off n s] : SegAt (x :: l) (off + 1) n s := ⟨⟨by simpa using h.eq.1, by have := h.eq.2; simp; omega⟩⟩

/-- A piece of a list written over. -/
class PutAt (l : List Value) (off : Nat) (vs : List Value) (l' : outParam (List Value)) : Prop where
  eq : l.take off ++ vs ++ l.drop (off + vs.length) = l' ∧ off + vs.length ≤ l.length
instance PutAt.nil {l : List Value} : PutAt l 0 [] l := ⟨⟨by simp, by simp⟩⟩
instance PutAt.cons {x v : Value} {l vs l' : List Value} [h : PutAt l 0 vs l'] : PutAt (x :: l) 0 (v :: vs) (v :: l') := ⟨⟨by have := h.eq.1; simp at this ⊢; exact this, by have := h.eq.2; simp at this ⊢; omega⟩⟩
instance PutAt.succ {x : Value} {l vs l' : List Value} {off : Nat} [h : PutAt l off vs l'] : PutAt (x :: l) (off + 1) vs (x :: l') := ⟨⟨by
  have h1 := h.eq.1
  rw [show off + 1 + vs.length = (off + vs.length) + 1 from by omega, List.take_succ_cons, List.drop_succ_cons, List.cons_append, List.cons_append, h1], by have := h.eq.2; simp; omega⟩⟩

/-- A value of one cell. -/
class One (v : Value) : Prop where
  one : v.oneCell' = true
instance {k : IntKind} {n : Int} : One (.int k n) := ⟨rfl⟩
instance {b : Bool} : One (.bool b) := ⟨rfl⟩
instance {s : ByteArray} : One (.string s) := ⟨rfl⟩
instance {p : Option Addr} : One (.pointer p) := ⟨rfl⟩
instance {p : Option Addr} {n c : Nat} : One (.slice p n c) := ⟨rfl⟩
instance {r : Option Nat} : One (.map r) := ⟨rfl⟩
instance {f : Fn} {x y : Array Value} : One (.func f x y) := ⟨rfl⟩
instance : One .nilFunc := ⟨rfl⟩
class Ones (l : List Value) : Prop where
  all : ∀ u ∈ l, u.oneCell' = true
instance : Ones [] := ⟨by simp⟩
instance {v : Value} {l : List Value} [h : One v] [hl : Ones l] : Ones (v :: l) := ⟨by
  intro u hu
  rcases List.mem_cons.1 hu with rfl | hu
  · exact h.one
  · exact hl.all u hu⟩
instance {xs ys : List Value} [h : Ones xs] [hl : Ones ys] : Ones (xs ++ ys) := ⟨by
  intro u hu
  rcases List.mem_append.1 hu with hu | hu
  · exact h.all u hu
  · exact hl.all u hu⟩

/-- What a load of type t at offset off of these cells gives. -/
class LoadAs (P : Program) (t : TypeId) (cs : List Value) (off : Nat) (v : outParam Value) : Prop where
  run : ∀ {w : World} {g : Nat} {tb : TypeId} {fr : Nat × Nat}, w.heap[g]? = some (.cells cs.toArray tb fr) → (Instr.loadAt t (.pointer (some ⟨g, off, none⟩))).run P w = .ok v w

theorem desc_plain {P : Program} {t : TypeId} [h : Sca P t] : ∃ d, P.underlying t = some d ∧ (match d with | .struct _ | .array _ _ => true | _ => false) = false := by
  have h1 := h.ok.1
  cases hu : P.underlying t with
  | none => simp [hu] at h1
  | some d => exact ⟨d, rfl, by cases d <;> simp_all⟩
theorem desc_row {P : Program} {t : TypeId} {n : Nat} [h : Agg P t n] : ∃ d : TypeDesc, P.underlying t = some d ∧ d.isRow = true := by
  have h1 := h.ok.1
  cases hu : P.underlying t with
  | none => simp [hu] at h1
  | some d => exact ⟨d, rfl, by cases d <;> simp_all⟩

instance LoadAs.sca {P : Program} {t : TypeId} {cs : List Value} {off : Nat} {v : Value} [ht : Sca P t] [hs : SegAt cs off 1 [v]] : LoadAs P t cs off v where
  run := fun {w g tb fr} hg => by
    obtain ⟨d, hu, hd⟩ := desc_plain (P := P) (t := t)
    have hag : (isAgg t).run P w = .ok false w := by
      unfold isAgg
      rw [Sem.run_bind, run_underlying hu w]
      cases d <;> simp_all
    have hc : w.cell? ⟨g, off, none⟩ = some v := by
      have h1 := hs.eq.1
      have h2 := hs.eq.2
      have h3 : cs[off]? = some v := by
        have : ((cs.drop off).take 1)[0]? = some v := by rw [h1]; rfl
        rw [List.getElem?_take_of_lt (by omega), List.getElem?_drop] at this
        simpa using this
      simp [World.cell?, hg, h3]
    simp only [Instr.loadAt, Instr.sureAddr, Sem.run_bind, Sem.run_pure, Result.andThen_ok, loadVar, hag]
    simp [load, Sem.run, hc]
instance LoadAs.agg {P : Program} {t : TypeId} {cs s : List Value} {off n : Nat} [ht : Agg P t n] [hs : SegAt cs off n s] : LoadAs P t cs off (.agg s.toArray) where
  run := fun {w g tb fr} hg => by
    obtain ⟨d, hu, hd⟩ := desc_row (P := P) (t := t)
    have h1 := hs.eq.1
    have h2 := hs.eq.2
    have hl : s.length = n := by rw [← h1]; simp; omega
    refine run_loadAt_mid w g off t s d ?_ hu hd (by rw [hl]; exact ht.ok.2)
    intro j v hv
    have hj : j < n := by rw [← hl]; exact (List.getElem?_eq_some_iff.1 hv).1
    rw [← h1, List.getElem?_take_of_lt hj, List.getElem?_drop] at hv
    simp [World.cell?, hg, hv]

/-- What a store of type t leaves. -/
class StoreAs (P : Program) (t : TypeId) (cs : List Value) (off : Nat) (v : Value) (cs' : outParam (List Value)) : Prop where
  run : ∀ {w : World} {g : Nat} {tb : TypeId}, w.heap[g]? = some (.cells cs.toArray tb (0, 0)) →
    (Instr.storeAt t (.pointer (some ⟨g, off, none⟩)) v).run P w = .ok () (w.setRow g cs'.toArray)

theorem store_at {P : Program} {t : TypeId} {cs cs' vs : List Value} {off : Nat} {v : Value} (hv : v.cells = vs.toArray) (hi : (P.info? t).map (·.size) = some vs.length) (hp : PutAt cs off vs cs')
    (h1 : Ones vs) {w : World} {g : Nat} {tb : TypeId} (hg : w.heap[g]? = some (.cells cs.toArray tb (0, 0))) :
    (Instr.storeAt t (.pointer (some ⟨g, off, none⟩)) v).run P w = .ok () (w.setRow g cs'.toArray) := by
  have hst := run_storeCells_at (P := P) g off tb vs 0 cs.toArray w hg (by have := hp.eq.2; simpa using this) h1.all
  have he := hp.eq.1
  simp only [Nat.add_zero] at hst
  rw [he] at hst
  cases hq : P.info? t with
  | none => simp [hq] at hi
  | some i =>
    have hs : i.size = vs.length := by simpa [hq] using hi
    simp [Instr.storeAt, Instr.sureAddr, storeVar, sizeOf, typeInfo, hq, hv, hs, hst]
instance StoreAs.agg {P : Program} {t : TypeId} {cs cs' vs : List Value} {off n : Nat} [ht : Agg P t n] [hn : SegAt vs 0 n vs] [hp : PutAt cs off vs cs'] [h1 : Ones vs] : StoreAs P t cs off (.agg vs.toArray) cs' where
  run := fun {w g tb} hg => store_at (vs := vs) rfl (by
    have h2 := hn.eq.2
    have h3 := congrArg List.length hn.eq.1
    simp at h3
    rw [show vs.length = n from by omega]; exact ht.ok.2) hp h1 hg
theorem cells_one {v : Value} (h : v.oneCell' = true) : v.cells = #[v] := by cases v <;> first | rfl | simp [Value.oneCell'] at h
instance StoreAs.sca {P : Program} {t : TypeId} {cs cs' : List Value} {off : Nat} {v : Value} [hv : One v] [ht : Sca P t] [hp : PutAt cs off [v] cs'] : StoreAs P t cs off v cs' where
  run := fun {w g tb} hg => store_at (vs := [v]) (cells_one hv.one) ht.ok.2 hp ⟨by simpa using hv.one⟩ hg

/-! ### 4. Assertions picked, left out, put in another order -/
class Pick (H : List As) (A : As) (R : outParam (List As)) : Prop where
  sat : ∀ {F : Nat → Prop} {w : World}, Sat H F w → Sat (A :: R) F w
instance Pick.head {A : As} {H : List As} : Pick (A :: H) A H := ⟨fun h => h⟩
instance (priority := low) Pick.tail {A C : As} {H R : List As} [h : Pick H A R] : Pick (C :: H) A (C :: R) where
  sat := fun {F w} ⟨F1, h1, h2, h3⟩ => by
    obtain ⟨F2, k1, k2, k3⟩ := h.sat h3
    exact ⟨F2, fun b hb => (k1 b hb).1, k2, F1, fun b hb => ⟨h1 b hb, fun hc => (k1 b hc).2 hb⟩, h2, k3.up (fun b hb => ⟨⟨hb.1.1, hb.2⟩, hb.1.2⟩)⟩

class Sub (H' H : List As) : Prop where
  sat : ∀ {F : Nat → Prop} {w : World}, Sat H F w → Sat H' F w
instance Sub.nil {H : List As} : Sub [] H := ⟨fun _ => trivial⟩
instance Sub.cons {A : As} {H' H R : List As} [p : Pick H A R] [s : Sub H' R] : Sub (A :: H') H where
  sat := fun {F w} h => by
    obtain ⟨F1, h1, h2, h3⟩ := p.sat h
    exact ⟨F1, h1, h2, s.sat h3⟩
instance (priority := high) Sub.refl {H : List As} : Sub H H := ⟨fun h => h⟩

instance (priority := low) Sub.drop {C : As} {H' H : List As} [s : Sub H' H] : Sub H' (C :: H) where
  sat := fun {F w} ⟨F1, h1, h2, h3⟩ => s.sat (h3.up (fun b hb => hb.1))

theorem Mod.sub {B : Nat} {w0 w : World} {H H' : List As} (h : Mod B w0 H w) [s : Sub H' H] : Mod B w0 H' w := ⟨h.below, h.low, s.sat h.sat⟩
theorem Mod.pick {B : Nat} {w0 w : World} {H R : List As} (h : Mod B w0 H w) (A : As) [s : Pick H A R] : Mod B w0 (A :: R) w := ⟨h.below, h.low, s.sat h.sat⟩

/-! ### 5. The operations -/
section
variable {P : Program} {ops : Array Oper} {rest : List Oper} {a : Act} {K : Act → World → Prop} {Q : Exit → Act → World → Prop} {B : Nat} {w0 w : World} {H H' : List As}
variable {dst : Option Tmp} {ty : TypeId} {pos : String} {after : Array Edge} {gd : Option (Nat × Bool)}

theorem eval_at {x : Tmp} {v : Value} (hx : a.tmps.toList[x]? = some v) : a.eval (.tmp x) = v := by
  show a.tmps.getD x undef = _
  rw [Array.getD_eq_getD_getElem?, ← Array.getElem?_toList, hx]; rfl

/-- What an operand is, looked up. -/
inductive Ev (a : Act) : Operand → Value → Prop where
  | tmp {x : Tmp} {v : Value} (h : a.tmps.toList[x]? = some v) : Ev a (.tmp x) v
  | const {v : Value} : Ev a (.const v) v
theorem Ev.eq {x : Operand} {v : Value} (h : Ev a x v) : a.eval x = v := by
  cases h with
  | tmp h => exact eval_at h
  | const => rfl

theorem run_load (HM : Mod B w0 H w) {t : TypeId} {x : Tmp} {g off : Nat} {cs : List Value} {tb : TypeId} {fr : Nat × Nat} {v : Value}
    (hx : a.tmps.toList[x]? = some (.pointer (some ⟨g, off, none⟩))) (hh : Has H g (.cells cs.toArray tb fr)) (hv : LoadAs P t cs off v) :
    (execOp a.eval ⟨dst, .load t (.tmp x), ty, pos, after, gd⟩).run P w = .ok (.value v) w := by
  simp only [execOp, eval_at hx, Sem.run_bind, hv.run (HM.has g), Result.andThen_ok, Sem.run_pure]

theorem sl_load (HM : Mod B w0 H w) {t : TypeId} {x : Tmp} {g off : Nat} {cs : List Value} {tb : TypeId} {fr : Nat × Nat} {v : Value}
    (hx : a.tmps.toList[x]? = some (.pointer (some ⟨g, off, none⟩))) (hh : Has H g (.cells cs.toArray tb fr)) (hv : LoadAs P t cs off v)
    (k : wpList P ops Q rest (a.put dst v) w) : wpList P ops Q (⟨dst, .load t (.tmp x), ty, pos, after, none⟩ :: rest) a w :=
  Kd.event_run rfl (run_load HM hx hh hv) k

theorem ow_store (HM : Mod B w0 H w) {t : TypeId} {x : Tmp} {y : Operand} {g off : Nat} {cs cs' : List Value} {tb : TypeId} {v : Value}
    (hx : a.tmps.toList[x]? = some (.pointer (some ⟨g, off, none⟩))) (hy : Ev a y v) (hh : Has H g (.cells cs.toArray tb (0, 0)))
    (hv : StoreAs P t cs off v cs') (hu : Upd H g (.cells cs'.toArray tb (0, 0)) H')
    (k : ∀ w', Mod B w0 H' w' → K a w') : Oper.wp P ⟨none, .store t (.tmp x) y, ty, pos, after, gd⟩ a w K Q := by
  have hg := HM.has g (hh := hh)
  have hrun : (execOp a.eval ⟨none, .store t (.tmp x) y, ty, pos, after, gd⟩).run P w = .ok .skip (w.setRow g cs'.toArray) := by
    simp only [execOp, eval_at hx, hy.eq, Sem.run_bind, hv.run hg, Result.andThen_ok, Sem.run_pure]
  unfold Oper.wp
  rw [hrun]
  refine k _ ?_
  refine HM.upd g (.cells cs'.toArray tb (0, 0)) rfl rfl rfl (by simp [World.setRow]) (fun b hb => ?_) (setRow_heap w g _ _ _ _ hg)
  simp [World.setRow, Array.getElem?_modify, Ne.symm hb]

theorem sl_store (HM : Mod B w0 H w) {t : TypeId} {x : Tmp} {y : Operand} {g off : Nat} {cs cs' : List Value} {tb : TypeId} {v : Value}
    (hx : a.tmps.toList[x]? = some (.pointer (some ⟨g, off, none⟩))) (hy : Ev a y v) (hh : Has H g (.cells cs.toArray tb (0, 0)))
    (hv : StoreAs P t cs off v cs') (hu : Upd H g (.cells cs'.toArray tb (0, 0)) H')
    (k : ∀ w', Mod B w0 H' w' → wpList P ops Q rest a w') : wpList P ops Q (⟨none, .store t (.tmp x) y, ty, pos, after, none⟩ :: rest) a w :=
  wpList_plain rfl fun _ hK => ow_store HM hx hy hh hv hu fun w' h => hK _ _ (k w' h)

theorem ow_new (HM : Mod B w0 H w) {o : Oper} {cs : List Value} {t : TypeId} {v : Nat → Value}
    (hrun : (execOp a.eval o).run P w = .ok (.value (v w.heap.size)) (w.alloc (.cells cs.toArray t (0, 0))))
    (k : ∀ g w', Mod B w0 (cells g cs t :: H) w' → K (a.put o.dst (v g)) w') : o.wp P a w K Q := by
  unfold Oper.wp
  rw [hrun]
  exact k _ _ (HM.grow (below_alloc (Below.refl _ _) _) _ ⟨⟨Nat.le_refl _, by simp⟩, blk_new _ _⟩)

theorem ow_box (HM : Mod B w0 H w) {t : TypeId} {x : Operand} {v : Value} {cs : List Value} (hx : Ev a x v) (hc : v.cells = cs.toArray)
    (k : ∀ g w', Mod B w0 (cells g cs t :: H) w' → K (a.put dst (.pointer (some ⟨g, 0, none⟩))) w') : Oper.wp P ⟨dst, .box t x, ty, pos, after, gd⟩ a w K Q := by
  refine ow_new HM (cs := cs) (t := t) (v := fun g => .pointer (some ⟨g, 0, none⟩)) ?_ k
  simp [execOp, hx.eq, Instr.box, newVar, newRow, newObj, hc]
  rfl

theorem sl_box (HM : Mod B w0 H w) {t : TypeId} {x : Operand} {v : Value} {cs : List Value} (hx : Ev a x v) (hc : v.cells = cs.toArray)
    (k : ∀ g w', Mod B w0 (cells g cs t :: H) w' → wpList P ops Q rest (a.put dst (.pointer (some ⟨g, 0, none⟩))) w') : wpList P ops Q (⟨dst, .box t x, ty, pos, after, none⟩ :: rest) a w :=
  wpList_plain rfl fun _ hK => ow_box HM hx hc fun g w' h => hK _ _ (k g w' h)

/-- a type's zero -/
class Zero (P : Program) (t : TypeId) (z : outParam (List Value)) : Prop where
  ok : ((P.info? t).bind (·.zero)).map (·.cells) = some z.toArray

theorem ow_alloc (HM : Mod B w0 H w) {t : TypeId} {z : List Value} (hz : Zero P t z)
    (k : ∀ g w', Mod B w0 (cells g z t :: H) w' → K (a.put dst (.pointer (some ⟨g, 0, none⟩))) w') : Oper.wp P ⟨dst, .alloc t, ty, pos, after, gd⟩ a w K Q := by
  refine ow_new HM (cs := z) (t := t) (v := fun g => .pointer (some ⟨g, 0, none⟩)) ?_ k
  obtain ⟨v, hv, hc⟩ := Option.map_eq_some_iff.1 hz.ok
  obtain ⟨i, hi, hiz⟩ := Option.bind_eq_some_iff.1 hv
  simp [execOp, Instr.alloc, zeroValue, typeInfo, hi, hiz, newVar, newRow, newObj, hc]
  rfl

theorem sl_alloc (HM : Mod B w0 H w) {t : TypeId} {z : List Value} (hz : Zero P t z)
    (k : ∀ g w', Mod B w0 (cells g z t :: H) w' → wpList P ops Q rest (a.put dst (.pointer (some ⟨g, 0, none⟩))) w') : wpList P ops Q (⟨dst, .alloc t, ty, pos, after, none⟩ :: rest) a w :=
  wpList_plain rfl fun _ hK => ow_alloc HM hz fun g w' h => hK _ _ (k g w' h)
end

/-! ### 7. Two worlds' worth put together; results -/
theorem Sat.append {w : World} : ∀ {G H : List As} {F1 F2 : Nat → Prop}, Sat G F1 w → Sat H F2 w → (∀ b, F1 b → ¬ F2 b) → Sat (G ++ H) (fun b => F1 b ∨ F2 b) w
  | [], _, _, _, _, h2, _ => h2.up (fun _ h => .inr h)
  | A :: G, H, F1, F2, ⟨F, h1, h2, h3⟩, h4, hd =>
    ⟨F, fun b hb => .inl (h1 b hb), h2, (Sat.append h3 h4 (fun b hb => hd b hb.1)).up (fun b hb => by
      rcases hb with hb | hb
      · exact ⟨.inl hb.1, hb.2⟩
      · exact ⟨.inr hb, fun hc => hd b (h1 b hc) hb⟩)⟩

theorem Sat.part {w : World} : ∀ {H G : List As} {F : Nat → Prop}, Sat (H ++ G) F w → ∃ F1 F2, Sat H F1 w ∧ Sat G F2 w ∧ (∀ b, F1 b → F b) ∧ (∀ b, F2 b → F b) ∧ ∀ b, F1 b → ¬ F2 b
  | [], G, F, h => ⟨fun _ => False, F, trivial, h, fun _ hb => hb.elim, fun _ hb => hb, fun _ hb => hb.elim⟩
  | A :: H, G, F, ⟨Fa, h1, h2, h3⟩ => by
    obtain ⟨F1, F2, k1, k2, k3, k4, k5⟩ := Sat.part (H := H) (G := G) h3
    refine ⟨fun b => Fa b ∨ F1 b, F2, ⟨Fa, fun b hb => .inl hb, h2, k1.up fun b hb => ⟨.inr hb, fun hc => (k3 b hb).2 hc⟩⟩, k2, ?_, fun b hb => (k4 b hb).1, ?_⟩
    · rintro b (hb | hb)
      · exact h1 b hb
      · exact (k3 b hb).1
    · rintro b (hb | hb) hc
      · exact (k4 b hc).2 hb
      · exact k5 b hb hc
/-- What a callee made of its own, put beside what was there. -/
theorem Mod.join {B : Nat} {w0 w w' : World} {G H : List As} (h : Mod B w0 H w) (k : Mod w.heap.size w G w') : Mod B w0 (G ++ H) w' := by
  refine ⟨h.below.trans (k.below.mono h.le), h.low, ?_⟩
  have h1 := Sat.loc (w' := w') h.sat (fun b hb => k.below.block b hb.2)
  refine (Sat.append k.sat h1 (fun b hb hc => Nat.not_le.2 hc.2 hb.1)).up (fun b hb => ?_)
  have := h.le
  have := k.below.size
  rcases hb with hb | hb <;> omega

section
variable {P : Program} {tmps : Array Value} {B : Nat} {w0 w : World} {H : List As} {rs : List ResultVar} {vs : List Value}
theorem vals_tmp {u : Tmp} {v : Value} (hx : tmps.toList[u]? = some v) (h : Vals P tmps w rs vs) : Vals P tmps w (.tmp u :: rs) (v :: vs) := by
  have he : tmps.getD u undef = v := by rw [Array.getD_eq_getD_getElem?, ← Array.getElem?_toList, hx]; rfl
  rw [← he]
  exact .tmp h
theorem vals_cell (HM : Mod B w0 H w) {p : Tmp} {ty : TypeId} {g n : Nat} {cs : List Value} {tb : TypeId} {fr : Nat × Nat}
    (hx : tmps.toList[p]? = some (.pointer (some ⟨g, 0, none⟩))) (hh : Has H g (.cells cs.toArray tb fr)) (ha : Agg P ty n) (hn : cs.length = n) (h : Vals P tmps w rs vs) :
    Vals P tmps w (.cell p ty :: rs) (.agg cs.toArray :: vs) := by
  obtain ⟨d, hu, hd⟩ := desc_row (P := P) (t := ty)
  refine .cell g tb cs.toArray fr d ?_ (HM.has g) hu (by cases d <;> simp_all) (by rw [ha.ok.2]; simp [hn]) h
  rw [Array.getD_eq_getD_getElem?, ← Array.getElem?_toList, hx]; rfl
theorem sl_ret {fn : Func} {R : Ending → World → Prop} (h : fn.results = rs.toArray) (hl : vs.length ≠ 1) (hv : Vals P tmps w rs vs) (hR : R (.returned (.tuple vs.toArray)) w) :
    bodyPost P fn R .ret ⟨tmps, []⟩ w := bodyPost_ret (results_list h hl hv) rfl hR
theorem sl_ret1 {fn : Func} {R : Ending → World → Prop} {r : ResultVar} {v : Value} (h : fn.results = #[r]) (hv : Vals P tmps w [r] [v]) (hR : R (.returned v) w) :
    bodyPost P fn R .ret ⟨tmps, []⟩ w := bodyPost_ret (results_single h hv) rfl hR
end

/-! ### 8. Rows of one's own: a slice that may grow -/
def row (v : Value) (e : TypeId) (sz n : Nat) (xs : List Value) : As where
  sat F w := (∀ k, v.ownBlock = some k → F k) ∧ w.ownsRow 0 e sz v n xs
  loc h hk := ⟨h.1, own_move h.2 (fun k hkk => hk k (h.1 k hkk))⟩
  up h hk := ⟨fun k hkk => hk k (h.1 k hkk), h.2⟩

/-- The row of this value among what is held. -/
class Row (H : List As) (v : Value) (e : outParam TypeId) (sz n : outParam Nat) (xs : outParam (List Value)) (R : outParam (List As)) : Prop where
  sat : ∀ {F : Nat → Prop} {w : World}, Sat H F w → Sat (row v e sz n xs :: R) F w
instance Row.head {v : Value} {e : TypeId} {sz n : Nat} {xs : List Value} {H : List As} : Row (row v e sz n xs :: H) v e sz n xs H := ⟨fun h => h⟩
instance (priority := low) Row.tail {v : Value} {e : TypeId} {sz n : Nat} {xs : List Value} {A : As} {H R : List As} [h : Row H v e sz n xs R] : Row (A :: H) v e sz n xs (A :: R) where
  sat := fun {F w} ⟨F1, h1, h2, h3⟩ => by
    obtain ⟨F2, k1, k2, k3⟩ := h.sat h3
    exact ⟨F2, fun b hb => (k1 b hb).1, k2, F1, fun b hb => ⟨h1 b hb, fun hc => (k1 b hc).2 hb⟩, h2, k3.up (fun b hb => ⟨⟨hb.1.1, hb.2⟩, hb.1.2⟩)⟩

theorem Mod.pickRow {B : Nat} {w0 w : World} {H R : List As} (h : Mod B w0 H w) (v : Value) {e : TypeId} {sz n : Nat} {xs : List Value} [s : Row H v e sz n xs R] : Mod B w0 (row v e sz n xs :: R) w := ⟨h.below, h.low, s.sat h.sat⟩
theorem Mod.nilRow {B : Nat} {w0 w : World} {H : List As} (h : Mod B w0 H w) (e : TypeId) (sz : Nat) : Mod B w0 (row (.slice none 0 0) e sz 0 [] :: H) w :=
  ⟨h.below, h.low, fun _ => False, fun _ hb => hb.elim, ⟨fun k hk => by simp [Value.ownBlock] at hk, World.ownsRow_nil w 0 e sz⟩, h.sat.up (fun _ hb => ⟨hb, fun hc => hc⟩)⟩
theorem Mod.rowOwn {B : Nat} {w0 w : World} {H R : List As} (h : Mod B w0 H w) (v : Value) {e : TypeId} {sz n : Nat} {xs : List Value} [s : Row H v e sz n xs R] : w.ownsRow 0 e sz v n xs := by
  obtain ⟨F, _, h2, _⟩ := s.sat h.sat
  exact h2.2
theorem Mod.rowOne {B : Nat} {w0 w : World} {H R : List As} (h : Mod B w0 H w) (v : Value) {e : TypeId} {sz n : Nat} {xs : List Value} [s : Row H v e sz n xs R] : One v := by
  rcases (h.rowOwn v).2 with ⟨hv, _⟩ | ⟨g, cap, cur, hv, _⟩
  · exact hv ▸ ⟨rfl⟩
  · exact hv ▸ ⟨rfl⟩
/-- A block that is wholly a row. -/
theorem Mod.cellsRow {B : Nat} {w0 w : World} {H : List As} {g : Nat} {cs : List Value} {e : TypeId} (h : Mod B w0 (cells g cs e :: H) w) (sz n : Nat) (hl : cs.length = n * sz) (hn : n ≤ 9223372036854775807) :
    Mod B w0 (row (.slice (some ⟨g, 0, none⟩) n n) e sz n cs :: H) w := by
  obtain ⟨F1, h1, h2, h3⟩ := h.sat
  refine ⟨h.below, h.low, F1, h1, ⟨fun k hk => ?_, hl, .inr ⟨g, n, cs.toArray, rfl, Nat.zero_le _, h2.2, Nat.le_refl _, by simpa [maxLen] using hn, by simpa using hl, ?_⟩⟩, h3⟩
  · have : g = k := by simpa [Value.ownBlock] using hk
    exact this ▸ h2.1
  · simp [← hl]

/-- This block among what is held. -/
class Blk (H : List As) (g : Nat) (o : outParam Obj) (R : outParam (List As)) : Prop where
  sat : ∀ {F : Nat → Prop} {w : World}, Sat H F w → Sat (blk g o :: R) F w
instance Blk.head {g : Nat} {o : Obj} {H : List As} : Blk (blk g o :: H) g o H := ⟨fun h => h⟩
instance (priority := low) Blk.tail {g : Nat} {o : Obj} {A : As} {H R : List As} [h : Blk H g o R] : Blk (A :: H) g o (A :: R) where
  sat := fun {F w} ⟨F1, h1, h2, h3⟩ => by
    obtain ⟨F2, k1, k2, k3⟩ := h.sat h3
    exact ⟨F2, fun b hb => (k1 b hb).1, k2, F1, fun b hb => ⟨h1 b hb, fun hc => (k1 b hc).2 hb⟩, h2, k3.up (fun b hb => ⟨⟨hb.1.1, hb.2⟩, hb.1.2⟩)⟩
theorem Mod.pickBlk {B : Nat} {w0 w : World} {H R : List As} (h : Mod B w0 H w) (g : Nat) {o : Obj} [s : Blk H g o R] : Mod B w0 (blk g o :: R) w := ⟨h.below, h.low, s.sat h.sat⟩
/-- A literal's block, taken for a row. -/
theorem Mod.litRow {B : Nat} {w0 w : World} {H R : List As} (h : Mod B w0 H w) (g : Nat) {cs : List Value} {e : TypeId} [s : Blk H g (.cells cs.toArray e (0, 0)) R] (sz n : Nat) (hl : cs.length = n * sz) (hn : n ≤ 9223372036854775807) :
    Mod B w0 (row (.slice (some ⟨g, 0, none⟩) n n) e sz n cs :: R) w := (h.pickBlk g).cellsRow sz n hl hn

/-- The first row has been written or has grown. -/
theorem Mod.grownRow {B : Nat} {w0 w w' : World} {H : List As} {v v' : Value} {e : TypeId} {sz n n' : Nat} {xs xs' : List Value} (h : Mod B w0 (row v e sz n xs :: H) w)
    (hg : w.grownBy w' v.ownBlock) (ho : w'.ownsRow 0 e sz v' n' xs') (hat : v'.ownBlock = v.ownBlock ∨ ∀ k, v'.ownBlock = some k → w.heap.size ≤ k ∧ k < w'.heap.size) : Mod B w0 (row v' e sz n' xs' :: H) w' := by
  obtain ⟨F1, h1, h2, h3⟩ := h.sat
  refine ⟨h.below.grown hg h.le (fun k hk => (h1 k (h2.1 k hk)).1), h.low, fun b => v'.ownBlock = some b, fun b hb => ?_, ⟨fun k hk => hk, ho⟩, ?_⟩
  · rcases hat with hat | hat
    · have := h1 b (h2.1 b (by rw [← hat]; exact hb))
      exact ⟨this.1, Nat.lt_of_lt_of_le this.2 hg.size⟩
    · exact ⟨Nat.le_trans h.le (hat b hb).1, (hat b hb).2⟩
  · have h4 := Sat.loc (w' := w') h3 (fun b hb => hg.block b hb.1.2 (fun e => hb.2 (h2.1 b e.symm)))
    refine h4.up (fun b hb => ⟨⟨hb.1.1, Nat.lt_of_lt_of_le hb.1.2 hg.size⟩, fun hc => ?_⟩)
    rcases hat with hat | hat
    · exact hb.2 (h2.1 b (by rw [← hat]; exact hc))
    · have := (hat b hc).1
      have := hb.1.2
      omega

theorem sat_left {w : World} : ∀ {H G : List As} {F : Nat → Prop}, Sat (H ++ G) F w → Sat H F w
  | [], _, _, _ => trivial
  | _ :: _, _, _, ⟨F1, h1, h2, h3⟩ => ⟨F1, h1, h2, sat_left h3⟩
instance sub_left {H G : List As} : Sub H (H ++ G) := ⟨sat_left⟩
class Split (H G : List As) (pre : outParam (List As)) : Prop where
  eq : H = pre ++ G
instance Split.cons {a : As} {H G pre : List As} [h : Split H G pre] : Split (a :: H) G (a :: pre) := ⟨by rw [h.eq]; rfl⟩
instance Split.app {H G : List As} : Split (H ++ G) G H := ⟨rfl⟩
theorem Mod.split {B : Nat} {w0 w : World} {H pre : List As} (h : Mod B w0 H w) (G : List As) [s : Split H G pre] : Mod B w0 (pre ++ G) w := by rw [← s.eq]; exact h

theorem Mod.split2 {B : Nat} {w0 w : World} {a : As} {H pre : List As} (h : Mod B w0 (a :: H) w) (G : List As) [s : Split H G pre] : Mod B w0 (a :: (pre ++ G)) w := by rw [← s.eq]; exact h

theorem Sat.comm {w : World} {H G : List As} {F : Nat → Prop} (h : Sat (H ++ G) F w) : Sat (G ++ H) F w := by
  obtain ⟨F1, F2, h1, h2, h3, h4, h5⟩ := Sat.part h
  exact (Sat.append h2 h1 (fun b hb hc => h5 b hc hb)).up fun b hb => hb.elim (h4 b) (h3 b)
theorem Mod.comm {B : Nat} {w0 w : World} {H G : List As} (h : Mod B w0 (H ++ G) w) : Mod B w0 (G ++ H) w := ⟨h.below, h.low, h.sat.comm⟩

theorem Mod.tailcomm {B : Nat} {w0 w : World} {a : As} {H G : List As} (h : Mod B w0 (a :: (G ++ H)) w) : Mod B w0 (a :: (H ++ G)) w := by
  obtain ⟨F1, h1, h2, h3⟩ := h.sat
  exact ⟨h.below, h.low, F1, h1, h2, h3.comm⟩

/-! ### 6. A region that draws its order: one order, laid down as a list, serves all.
  (i, 0): a read that stands in every world of S · (i, 1): what yields in whatever world · (i, 2): an effect, alone ready; S holds behind it · (i, 3): an effect of ds. -/
def okT (md : Region.Mode) (ops : Array Oper) (ds : List Nat) : List (Nat × Nat) → Array Bool → Bool
  | [], l => Region.ready md ops l == []
  | (i, k) :: p, l => (match k with
    | 0 => Region.free md ops l i && (Region.ready md ops l).contains i && Region.closedB md ops l && Region.lastB md ops l ds i
    | 1 => Region.free md ops l i && (Region.ready md ops l).contains i
    | 2 => Region.ready md ops l == [i] && !ds.contains i
    | _ => Region.ready md ops l == [i] && ds.contains i) && okT md ops ds p (l.setIfInBounds i true)

def wpT (P : Program) (ops : Array Oper) (Q : Exit → Act → World → Prop) (S : World → Prop) : List (Nat × Nat) → Act → World → Prop
  | [], a, w => Q .normal a w
  | (i, k) :: p, a, w => match ops[i]? with
    | none => False
    | some o => match k with
      | 0 => S w ∧ ∃ v, YieldsIf P ops S o v a ∧ wpT P ops Q S p (a.put o.dst v) w
      | 1 => ∃ v, Yields P ops o v a ∧ wpT P ops Q S p (a.put o.dst v) w
      | 2 => if Region.wanted o (yielded ops a.tmps) = true then o.wp P a w (fun a' w' => S w' ∧ wpT P ops Q S p a' w') Q else S w ∧ wpT P ops Q S p (a.put o.dst undef) w
      | _ => o.guard = none ∧ o.wp P a w (fun a' w' => wpT P ops Q S p a' w') Q

section
variable {P : Program} {ops : Array Oper} {Q : Exit → Act → World → Prop} {S : World → Prop} {ds : List Nat}
theorem wpT_sound (hs : Region.noSelect ops = true) (hQ : ∀ c a d v w, Q (.panic c) (Act.put a d v) w → Q (.panic c) a w) :
    ∀ (p : List (Nat × Nat)) (fuel : Nat) (l : Array Bool) (a : Act) (w : World), p.length ≤ fuel → okT .any ops ds p l = true → wpT P ops Q S p a w → wpAnyLast P .any ops Q S ds fuel l a w
  | [], fuel, l, a, w, _, hok, h => wpAnyLast_done (by simpa [okT] using hok) h fuel
  | (i, k) :: p, 0, l, a, w, hf, _, _ => by simp at hf
  | (i, k) :: p, fuel + 1, l, a, w, hf, hok, h => by
    have hf' : p.length ≤ fuel := by simpa using hf
    simp only [okT, Bool.and_eq_true] at hok
    obtain ⟨h1, h2⟩ := hok
    simp only [wpT] at h
    cases ho : ops[i]? with
    | none => rw [ho] at h; exact h.elim
    | some o =>
      rw [ho] at h
      match k, h1, h with
      | 0, h1, h =>
        simp only [Bool.and_eq_true] at h1
        obtain ⟨hS, v, hy, hk⟩ := h
        exact wpAnyLast_take ho hs h1.1.1.1 h1.1.1.2 h1.1.2 h1.2 (fun c a w => hQ c a _ _ w) hy hS (wpT_sound hs hQ p fuel _ _ _ hf' h2 hk)
      | 1, h1, h =>
        simp only [Bool.and_eq_true] at h1
        obtain ⟨v, hy, hk⟩ := h
        exact wpAnyLast_any ho (Region.noSelect_spec hs) (fun c a w => hQ c a _ _ w) fuel l a w (Region.free_spec ho h1.1) (by simpa using h1.2) hy (wpT_sound hs hQ p fuel _ _ _ hf' h2 hk)
      | 2, h1, h =>
        simp only [Bool.and_eq_true, beq_iff_eq, Bool.not_eq_true', List.contains_eq_mem, decide_eq_false_iff_not] at h1
        refine wpAnyLast_ready h1.1 (by simp) (AllReadyL.cons ho h1.2 (fun K' hK => ?_) AllReadyL.nil)
        by_cases hw : Region.wanted o (yielded ops a.tmps) = true
        · simp only [hw, if_true] at h ⊢
          exact Oper.wp_mono (fun a' w' hh => hK.out a' w' hh.1 (fun _ => wpT_sound hs hQ p fuel _ _ _ hf' h2 hh.2)) h
        · simp only [hw, if_false, Bool.false_eq_true] at h ⊢
          exact hK.out _ _ h.1 (fun _ => wpT_sound hs hQ p fuel _ _ _ hf' h2 h.2)
      | k + 3, h1, h =>
        simp only [Bool.and_eq_true, beq_iff_eq, List.contains_eq_mem, decide_eq_true_eq] at h1
        obtain ⟨hg, hk⟩ := h
        refine wpAnyLast_ready h1.1 (by simp) (AllReadyL.cons_last ho h1.2 (fun K' hK => ?_) AllReadyL.nil)
        rw [if_pos (by simp [Region.wanted, hg])]
        exact Oper.wp_mono (fun a' w' hh => hK.out a' w' (wpT_sound hs hQ p fuel _ _ _ hf' h2 hh)) hk

theorem wp_drawn {id : Nat} {a : Act} {w : World} (S : World → Prop) (ds : List Nat) (p : List (Nat × Nat)) (hm : P.follows .mixedOrders = true) (hs : Region.noSelect ops = true) (hl : decide (p.length ≤ ops.size) = true)
    (hok : okT .any ops ds p (Array.replicate ops.size false) = true)
    (hQ : ∀ c a d v w, Q (.panic c) (Act.put a d v) w → Q (.panic c) a w) (h : wpT P ops Q S p a w.drew) : (Code.region id ops true).wp P Q a w :=
  wp_region_last hm (wpT_sound hs hQ p _ _ _ _ (of_decide_eq_true hl) hok h)
end

section
variable {P : Program} {ops : Array Oper} {a : Act} {K : Act → World → Prop} {Q : Exit → Act → World → Prop} {B : Nat} {w0 w : World} {HS H H' : List As} {S : World → Prop}
variable {dst : Option Tmp} {ty : TypeId} {pos : String} {after : Array Edge} {gd : Option (Nat × Bool)} {i : Nat} {p : List (Nat × Nat)}

theorem run_loadR {P : Program} {a : Act} {w : World} {dst : Option Tmp} {ty : TypeId} {pos : String} {after : Array Edge} {gd : Option (Nat × Bool)} {t : TypeId} {x : Tmp} {p : Option Addr} {v : Value} (hx : a.tmps.toList[x]? = some (.pointer p)) (hl : (Instr.loadAt t (.pointer p)).run P w = .ok v w) :
    (execOp a.eval ⟨dst, .load t (.tmp x), ty, pos, after, gd⟩).run P w = .ok (.value v) w := by
  simp only [execOp, eval_at hx, Sem.run_bind, hl, Result.andThen_ok, Sem.run_pure]

theorem wp_drawnM {id : Nat} (HM : Mod B w0 H w) (HS : List As) (ds : List Nat) (p : List (Nat × Nat)) (hm : P.follows .mixedOrders = true) (hs : Region.noSelect ops = true) (hl : decide (p.length ≤ ops.size) = true)
    (hok : okT .any ops ds p (Array.replicate ops.size false) = true)
    (hQ : ∀ c a d v w, Q (.panic c) (Act.put a d v) w → Q (.panic c) a w) (h : ∀ w', Mod B w0 H w' → wpT P ops Q (Mod B w0 HS) p a w') : (Code.region id ops true).wp P Q a w :=
  wp_drawn (Mod B w0 HS) ds p hm hs hl hok hQ (h _ HM.drew)

theorem wp_drawnS {id : Nat} (HM : Mod B w0 H w) (ds : List Nat) (p : List (Nat × Nat)) (hm : P.follows .mixedOrders = true) (hs : Region.noSelect ops = true) (hl : decide (p.length ≤ ops.size) = true)
    (hok : okT .any ops ds p (Array.replicate ops.size false) = true)
    (hQ : ∀ c a d v w, Q (.panic c) (Act.put a d v) w → Q (.panic c) a w) (h : ∀ w', Mod B w0 H w' → wpT P ops Q (Mod B w0 H) p a w') : (Code.region id ops true).wp P Q a w :=
  wp_drawnM HM H ds p hm hs hl hok hQ h

/-- One row is to be turned in the region: the reads stand on the rest. -/
theorem wp_drawnR {id : Nat} (HM : Mod B w0 H w) (v : Value) {e : TypeId} {sz n : Nat} {xs : List Value} {R : List As} [hv : Row H v e sz n xs R] (ds : List Nat) (p : List (Nat × Nat)) (hm : P.follows .mixedOrders = true) (hs : Region.noSelect ops = true) (hl : decide (p.length ≤ ops.size) = true)
    (hok : okT .any ops ds p (Array.replicate ops.size false) = true)
    (hQ : ∀ c a d v w, Q (.panic c) (Act.put a d v) w → Q (.panic c) a w) (h : ∀ w', Mod B w0 (row v e sz n xs :: R) w' → wpT P ops Q (Mod B w0 R) p a w') : (Code.region id ops true).wp P Q a w :=
  wp_drawnM (HM.pickRow v) R ds p hm hs hl hok hQ h

/-- One block is to be written in the region: the reads stand on the rest. -/
theorem wp_drawnB {id : Nat} (HM : Mod B w0 H w) (g : Nat) {o : Obj} {R : List As} [hv : Blk H g o R] (ds : List Nat) (p : List (Nat × Nat)) (hm : P.follows .mixedOrders = true) (hs : Region.noSelect ops = true) (hl : decide (p.length ≤ ops.size) = true)
    (hok : okT .any ops ds p (Array.replicate ops.size false) = true)
    (hQ : ∀ c a d v w, Q (.panic c) (Act.put a d v) w → Q (.panic c) a w) (h : ∀ w', Mod B w0 (blk g o :: R) w' → wpT P ops Q (Mod B w0 R) p a w') : (Code.region id ops true).wp P Q a w :=
  wp_drawnM (HM.pickBlk g) R ds p hm hs hl hok hQ h

theorem t_load (HM : Mod B w0 H w) {t : TypeId} {x : Tmp} {g off : Nat} {cs : List Value} {tb : TypeId} {fr : Nat × Nat} {v : Value}
    (ho : ops.toList[i]? = some ⟨dst, .load t (.tmp x), ty, pos, after, gd⟩) (hw : Region.wanted ⟨dst, .load t (.tmp x), ty, pos, after, gd⟩ (yielded ops a.tmps) = true)
    (hx : a.tmps.toList[x]? = some (.pointer (some ⟨g, off, none⟩))) (hs : Sub HS H) (hh : Has HS g (.cells cs.toArray tb fr)) (hv : LoadAs P t cs off v)
    (k : wpT P ops Q (Mod B w0 HS) p (a.put dst v) w) : wpT P ops Q (Mod B w0 HS) ((i, 0) :: p) a w := by
  have ho' := (Array.getElem?_toList (xs := ops)).symm.trans ho
  simp only [wpT, ho']
  exact ⟨HM.sub, v, .inl ⟨hw, fun w' hw' => run_load hw' hx hh hv⟩, k⟩

theorem t_loadH {HL : List As} (HM : Mod B w0 H w) {t : TypeId} {x : Tmp} {p' : Option Addr} {v : Value}
    (ho : ops.toList[i]? = some ⟨dst, .load t (.tmp x), ty, pos, after, gd⟩) (hw : Region.wanted ⟨dst, .load t (.tmp x), ty, pos, after, gd⟩ (yielded ops a.tmps) = true)
    (hx : a.tmps.toList[x]? = some (.pointer p')) (hl : Aside0 (∀ w', Mod B w0 HL w' → (Instr.loadAt t (.pointer p')).run P w' = .ok v w')) (hs : Sub HS H) (hs2 : Sub HL HS)
    (k : wpT P ops Q (Mod B w0 HS) p (a.put dst v) w) : wpT P ops Q (Mod B w0 HS) ((i, 0) :: p) a w := by
  have ho' := (Array.getElem?_toList (xs := ops)).symm.trans ho
  simp only [wpT, ho']
  exact ⟨HM.sub, v, .inl ⟨hw, fun w' hw' => run_loadR (a := a) hx (hl.out _ hw'.sub)⟩, k⟩

theorem t_move {x : Operand} {v : Value} (ho : ops.toList[i]? = some ⟨dst, .move x, ty, pos, after, gd⟩) (hw : Region.wanted ⟨dst, .move x, ty, pos, after, gd⟩ (yielded ops a.tmps) = true)
    (hx : Ev a x v) (k : wpT P ops Q S p (a.put dst v) w) : wpT P ops Q S ((i, 1) :: p) a w := by
  have ho' := (Array.getElem?_toList (xs := ops)).symm.trans ho
  simp only [wpT, ho']
  exact ⟨v, .inl ⟨hw, fun w' => by simp only [execOp, hx.eq, Sem.run_pure]⟩, k⟩
theorem t_assign {x : Operand} {v : Value} (ho : ops.toList[i]? = some ⟨dst, .assign x, ty, pos, after, gd⟩) (hw : Region.wanted ⟨dst, .assign x, ty, pos, after, gd⟩ (yielded ops a.tmps) = true)
    (hx : Ev a x v) (k : wpT P ops Q S p (a.put dst v) w) : wpT P ops Q S ((i, 1) :: p) a w := by
  have ho' := (Array.getElem?_toList (xs := ops)).symm.trans ho
  simp only [wpT, ho']
  exact ⟨v, .inl ⟨hw, fun w' => by simp only [execOp, hx.eq, Sem.run_pure]⟩, k⟩
theorem t_skip {o : Oper} (ho : ops.toList[i]? = some o) (hw : Region.wanted o (yielded ops a.tmps) = false) (k : wpT P ops Q S p (a.put o.dst undef) w) : wpT P ops Q S ((i, 1) :: p) a w := by
  have ho' := (Array.getElem?_toList (xs := ops)).symm.trans ho
  simp only [wpT, ho']
  exact ⟨undef, .inr ⟨hw, rfl⟩, k⟩
theorem t_skip0 (HM : Mod B w0 H w) {o : Oper} (ho : ops.toList[i]? = some o) (hw : Region.wanted o (yielded ops a.tmps) = false) (hs : Sub HS H) (k : wpT P ops Q (Mod B w0 HS) p (a.put o.dst undef) w) : wpT P ops Q (Mod B w0 HS) ((i, 0) :: p) a w := by
  have ho' := (Array.getElem?_toList (xs := ops)).symm.trans ho
  simp only [wpT, ho']
  exact ⟨HM.sub, undef, .inr ⟨hw, rfl⟩, k⟩
theorem t_pure {o : Oper} {v : Value} (ho : ops.toList[i]? = some o) (hw : Region.wanted o (yielded ops a.tmps) = true) (hr : ∀ w, (execOp a.eval o).run P w = .ok (.value v) w)
    (k : wpT P ops Q S p (a.put o.dst v) w) : wpT P ops Q S ((i, 1) :: p) a w := by
  have ho' := (Array.getElem?_toList (xs := ops)).symm.trans ho
  simp only [wpT, ho']
  exact ⟨v, .inl ⟨hw, hr⟩, k⟩
theorem t_pure0 (HM : Mod B w0 H w) {o : Oper} {v : Value} (ho : ops.toList[i]? = some o) (hw : Region.wanted o (yielded ops a.tmps) = true) (hs : Sub HS H) (hr : ∀ w, Mod B w0 HS w → (execOp a.eval o).run P w = .ok (.value v) w)
    (k : wpT P ops Q (Mod B w0 HS) p (a.put o.dst v) w) : wpT P ops Q (Mod B w0 HS) ((i, 0) :: p) a w := by
  have ho' := (Array.getElem?_toList (xs := ops)).symm.trans ho
  simp only [wpT, ho']
  exact ⟨HM.sub, v, .inl ⟨hw, hr⟩, k⟩
theorem t_eff {o : Oper} (ho : ops.toList[i]? = some o) (hw : Region.wanted o (yielded ops a.tmps) = true) (h : ∀ K : Act → World → Prop, (∀ a' w' H', Mod B w0 H' w' → Sub HS H' → wpT P ops Q (Mod B w0 HS) p a' w' → K a' w') → o.wp P a w K Q) : wpT P ops Q (Mod B w0 HS) ((i, 2) :: p) a w := by
  have ho' := (Array.getElem?_toList (xs := ops)).symm.trans ho
  simp only [wpT, ho']
  rw [if_pos hw]
  exact h _ (fun _ _ _ h1 h2 h3 => ⟨h1.sub (s := h2), h3⟩)
theorem t_skip2 (HM : Mod B w0 H w) {o : Oper} (ho : ops.toList[i]? = some o) (hw : Region.wanted o (yielded ops a.tmps) = false) (hs : Sub HS H) (k : wpT P ops Q (Mod B w0 HS) p (a.put o.dst undef) w) : wpT P ops Q (Mod B w0 HS) ((i, 2) :: p) a w := by
  have ho' := (Array.getElem?_toList (xs := ops)).symm.trans ho
  simp only [wpT, ho']
  rw [if_neg (by rw [hw]; exact Bool.false_ne_true)]
  exact ⟨HM.sub, k⟩
theorem t_last {o : Oper} (ho : ops.toList[i]? = some o) (hg : o.guard = none) (h : ∀ K : Act → World → Prop, (∀ a' w', wpT P ops Q S p a' w' → K a' w') → o.wp P a w K Q) : wpT P ops Q S ((i, 3) :: p) a w := by
  have ho' := (Array.getElem?_toList (xs := ops)).symm.trans ho
  simp only [wpT, ho']
  exact ⟨hg, h _ (fun _ _ h2 => h2)⟩
theorem t_at {n k : Nat} (_hn : i = n) (h : wpT P ops Q S ((i, k) :: p) a w) : wpT P ops Q S ((i, k) :: p) a w := h
theorem t_nil (h : Q .normal a w) : wpT P ops Q S [] a w := h
end

/-- A slice's type, and what an element takes. -/
class Elem (P : Program) (t : TypeId) (e : outParam TypeId) (sz bytes : outParam Nat) : Prop where
  ok : P.underlying t = some (.slice e) ∧ (∃ i z, P.info? e = some i ∧ i.zero = some z ∧ i.size = sz ∧ i.bytes = bytes ∧ z.cells.size = sz) ∧ 0 < sz ∧ 0 < bytes
theorem Elem.mk' {P : Program} {t e : TypeId} {sz bytes : Nat} (h1 : P.underlying t = some (.slice e)) (h2 : (P.info? e).map (fun i => (i.zero.map (·.cells.size), i.size, i.bytes)) = some (some sz, sz, bytes)) (h3 : 0 < sz) (h4 : 0 < bytes) : Elem P t e sz bytes := by
  obtain ⟨i, hi, he⟩ := Option.map_eq_some_iff.1 h2
  simp only [Prod.mk.injEq] at he
  obtain ⟨z, hz, hzs⟩ := Option.map_eq_some_iff.1 he.1
  exact ⟨h1, ⟨i, z, hi, hz, he.2.1, he.2.2, hzs⟩, h3, h4⟩

section
variable {P : Program} {ops : Array Oper} {rest : List Oper} {a : Act} {K : Act → World → Prop} {Q : Exit → Act → World → Prop} {B : Nat} {w0 w : World} {H H' R : List As}
variable {dst : Option Tmp} {ty : TypeId} {pos : String} {after : Array Edge} {gd : Option (Nat × Bool)}

theorem run_append_row {t ty e : TypeId} {sz bytes : Nat} [he : Elem P t e sz bytes] {v : Value} {n : Nat} {xs : List Value} (HM : Mod B w0 (row v e sz n xs :: H) w)
    {ad : Addr} {m c : Nat} {news : List Value} (hl : news.length = m * sz) (hnews : ∀ j u, news[j]? = some u → w.cell? (ad.add j) = some u) (h1 : Ones news) (hb : (n + m) * bytes ≤ 140737488355328) :
    ∃ v' w', (Builtin.append_ #[t, t] ty #[v, .slice (some ad) m c]).run P w = .ok v' w' ∧ Mod B w0 (row v' e sz (n + m) (xs ++ news) :: H) w' := by
  obtain ⟨ht, ⟨i, z, hi, hz, hs, hby, hzs⟩, hs0, hb0⟩ := he.ok
  have hnm : n + m ≤ 140737488355328 := Nat.le_trans (Nat.le_mul_of_pos_right _ hb0) hb
  have ho : w.ownsRow 0 e sz v n xs := HM.rowOwn v
  obtain ⟨v', w', hr, h2, h3, _, h5⟩ := run_append_own_at (P := P) (w := w) 0 t ty e i z sz bytes ht hi hz hs hby hzs hs0 v n xs ho ad m c news hl hnews h1.all (by simp only [maxLen]; omega) hb (Nat.zero_le _)
  refine ⟨v', w', hr, HM.grownRow h3 h2 ?_⟩
  rcases h5 with h5 | h5
  · exact .inl h5
  · by_cases he : v'.ownBlock = v.ownBlock
    · exact .inl he
    · refine .inr (fun k hk => ⟨?_, (h2.lt k hk).2⟩)
      rw [h5] at hk
      injection hk with hk
      omega

theorem ow_append {s x : Operand} {t e : TypeId} {sz bytes : Nat} {v : Value} {n : Nat} {xs : List Value} (HM : Mod B w0 H w) (hs : Ev a s v) (hr : Row H v e sz n xs R)
    {ad : Addr} {m c : Nat} {news : List Value} (hx : Ev a x (.slice (some ad) m c)) (he : Elem P t e sz bytes) (hl : news.length = m * sz) (hnews : ∀ j u, news[j]? = some u → w.cell? (ad.add j) = some u) (h1 : Ones news) (hb : (n + m) * bytes ≤ 140737488355328)
    (k : ∀ v' w', Mod B w0 (row v' e sz (n + m) (xs ++ news) :: R) w' → K (a.put dst v') w') :
    Oper.wp P ⟨dst, .call { callee := .builtin .append, args := #[s, x], argTypes := #[t, t] }, ty, pos, after, gd⟩ a w K Q := by
  obtain ⟨v', w', hrun, hm⟩ := run_append_row (P := P) (t := t) (ty := ty) (c := c) (HM.pickRow v) hl hnews h1 hb
  unfold Oper.wp execOp
  simp only [resolve, invoke, builtin, Sem.run_bind, Sem.run_pure, Result.andThen_ok, List.map_toArray, List.map_cons, List.map_nil, hs.eq, hx.eq, hrun]
  exact k v' w' hm

theorem cells_at {g : Nat} {cs : List Value} {t : TypeId} {fr : Nat × Nat} (hg : w.heap[g]? = some (.cells cs.toArray t fr)) : ∀ j u, cs[j]? = some u → w.cell? ((⟨g, 0, none⟩ : Addr).add j) = some u := by
  intro j u hu
  have ha : (⟨g, 0, none⟩ : Addr).add j = ⟨g, j, none⟩ := by unfold Addr.add; split <;> simp_all
  rw [ha]
  simp [World.cell?, hg, hu]

/-- A literal's cells appended. -/
theorem ow_append_lit {s x : Operand} {t e : TypeId} {sz bytes : Nat} {v : Value} {n : Nat} {xs : List Value} (HM : Mod B w0 H w) (hs : Ev a s v) (hr : Row H v e sz n xs R)
    {g m c : Nat} {news : List Value} {fr : Nat × Nat} {tb : TypeId} (hx : Ev a x (.slice (some ⟨g, 0, none⟩) m c)) (he : Elem P t e sz bytes) (hh : Has H g (.cells news.toArray tb fr)) (hl : news.length = m * sz) (h1 : Ones news) (hb : (n + m) * bytes ≤ 140737488355328)
    (k : ∀ v' w', Mod B w0 (row v' e sz (n + m) (xs ++ news) :: R) w' → K (a.put dst v') w') :
    Oper.wp P ⟨dst, .call { callee := .builtin .append, args := #[s, x], argTypes := #[t, t] }, ty, pos, after, gd⟩ a w K Q :=
  ow_append HM hs hr hx he hl (cells_at (HM.has g)) h1 hb k

theorem sl_append_lit {s x : Operand} {t e : TypeId} {sz bytes : Nat} {v : Value} {n : Nat} {xs : List Value} (HM : Mod B w0 H w) (hs : Ev a s v) (hr : Row H v e sz n xs R)
    {g m c : Nat} {news : List Value} {fr : Nat × Nat} {tb : TypeId} (hx : Ev a x (.slice (some ⟨g, 0, none⟩) m c)) (he : Elem P t e sz bytes) (hh : Has H g (.cells news.toArray tb fr)) (hl : news.length = m * sz) (h1 : Ones news) (hb : (n + m) * bytes ≤ 140737488355328)
    (k : ∀ v' w', Mod B w0 (row v' e sz (n + m) (xs ++ news) :: R) w' → wpList P ops Q rest (a.put dst v') w') :
    wpList P ops Q (⟨dst, .call { callee := .builtin .append, args := #[s, x], argTypes := #[t, t] }, ty, pos, after, none⟩ :: rest) a w :=
  wpList_plain rfl fun _ hK => ow_append_lit HM hs hr hx he hh hl h1 hb fun v' w' h => hK _ _ (k v' w' h)

/-- A string's bytes appended. -/
theorem run_append_row_str {t u ty e : TypeId} [he : Elem P t e 1 1] (hz : (P.info? e).bind (·.zero) = some (.int .u8 0)) (hu : P.underlying u = some .string) {v : Value} {n : Nat} {xs : List Value} (HM : Mod B w0 (row v e 1 n xs :: H) w)
    {s : ByteArray} (hb : n + s.size ≤ 140737488355328) :
    ∃ v' w', (Builtin.append_ #[t, u] ty #[v, .string s]).run P w = .ok v' w' ∧ Mod B w0 (row v' e 1 (n + s.size) (xs ++ Lib.strCells s) :: H) w' := by
  obtain ⟨ht, ⟨i, z, hi, hz1, hs, hby, hzs⟩, hs0, hb0⟩ := he.ok
  have hz0 : z = .int .u8 0 := by rw [hi] at hz; simp [hz1] at hz; exact hz
  subst hz0
  have ho : w.ownsRow 0 e 1 v n xs := HM.rowOwn v
  obtain ⟨v', w', hr, h2, h3, _⟩ := Lib.run_append_own_string (P := P) w 0 t u ty e i ht hu hi hz1 hs hby v n xs ho s (by simp only [maxLen]; omega) hb (Nat.zero_le _)
  refine ⟨v', w', hr, HM.grownRow h3 h2 ?_⟩
  -- where it lies: run anew, arm by arm
  have hxl : xs.length = n := by simpa using ho.1
  rcases ho.2 with ⟨rfl, rfl⟩ | ⟨g, cap, cur, rfl, hbg, hg, hnc, hcm, hcs, htake⟩
  · by_cases hm : s.size = 0
    · left
      have hn : Lib.strCells s = [] := List.eq_nil_of_length_eq_zero (by rw [Lib.strCells_length]; exact hm)
      rcases h2.2 with ⟨rfl, _⟩ | ⟨g', cap', cur', rfl, _, hg', hnc', _⟩
      · rfl
      · have hf := Lib.run_firstCells_string (P := P) w 1 s
        rw [hm] at hf
        simp [Builtin.append_, run_underlying ht, run_underlying hu, sizeOf, typeInfo, hi, hs, Builtin.lenOf, hm, hf] at hr
    · right
      have hr' := run_append_nil_string (P := P) w t u ty e i (.int .u8 0) ht hu hi hz1 s (by omega) (by omega) (by rw [hby]; omega)
      rw [hr'] at hr
      injection hr with e1 e2
      intro k hk
      rw [← e1] at hk
      have hk' : w.heap.size = k := by simpa [Value.ownBlock] using hk
      refine ⟨by omega, (h2.lt k (by rw [← e1]; exact hk)).2⟩
  · by_cases hroom : n + s.size ≤ cap
    · left
      have hcs' : cur.size = cap := by simpa using hcs
      have hr' := Lib.run_append_room_string (P := P) w t u ty e i ht hu hi hs g n cap cur hg s hroom (by omega)
      rw [hr'] at hr
      injection hr with e1 e2
      rw [← e1]; rfl
    · right
      have holds : ∀ j u, xs[j]? = some u → w.cell? ((⟨g, 0, none⟩ : Addr).add j) = some u := ho.cells (g := g) rfl
      have hr' := Lib.run_append_grow_string (P := P) w t u ty e i (.int .u8 0) ht hu hi hz1 ⟨g, 0, none⟩ n cap xs (by rw [hs]; simpa using hxl) holds s (by omega) (by omega) (by rw [hby]; exact growslice_fits (by omega) (by omega))
      rw [hr'] at hr
      injection hr with e1 e2
      intro k hk
      rw [← e1] at hk
      have hk' : w.heap.size = k := by simpa [Value.ownBlock] using hk
      exact ⟨by omega, (h2.lt k (by rw [← e1]; exact hk)).2⟩

theorem ow_append_str {s x : Operand} {t u e : TypeId} {v : Value} {n : Nat} {xs : List Value} (HM : Mod B w0 H w) (hs : Ev a s v) (hr : Row H v e 1 n xs R)
    {b : ByteArray} (hx : Ev a x (.string b)) (he : Elem P t e 1 1) (hz : (P.info? e).bind (·.zero) = some (.int .u8 0)) (hu : P.underlying u = some .string) (hb : n + b.size ≤ 140737488355328)
    (k : ∀ v' w', Mod B w0 (row v' e 1 (n + b.size) (xs ++ Lib.strCells b) :: R) w' → K (a.put dst v') w') :
    Oper.wp P ⟨dst, .call { callee := .builtin .append, args := #[s, x], argTypes := #[t, u] }, ty, pos, after, gd⟩ a w K Q := by
  obtain ⟨v', w', hrun, hm⟩ := run_append_row_str (P := P) (t := t) (u := u) (ty := ty) hz hu (HM.pickRow v) hb
  unfold Oper.wp execOp
  simp only [resolve, invoke, builtin, Sem.run_bind, Sem.run_pure, Result.andThen_ok, List.map_toArray, List.map_cons, List.map_nil, hs.eq, hx.eq, hrun]
  exact k v' w' hm

/-- A literal []T{..}: its run shown by the walk's simp. -/
theorem ow_lit (HM : Mod B w0 H w) {t : TypeId} {n : Nat} {ps : Array (Nat × Operand)} {cs : List Value} {e : TypeId}
    (hrun : (execOp a.eval ⟨dst, .buildSlice t n ps, ty, pos, after, gd⟩).run P w = .ok (.value (.slice (some ⟨w.heap.size, 0, none⟩) n n)) (w.alloc (.cells cs.toArray e (0, 0))))
    (k : ∀ g w', Mod B w0 (cells g cs e :: H) w' → K (a.put dst (.slice (some ⟨g, 0, none⟩) n n)) w') : Oper.wp P ⟨dst, .buildSlice t n ps, ty, pos, after, gd⟩ a w K Q :=
  ow_new HM (v := fun g => .slice (some ⟨g, 0, none⟩) n n) hrun k
theorem sl_lit (HM : Mod B w0 H w) {t : TypeId} {n : Nat} {ps : Array (Nat × Operand)} {cs : List Value} {e : TypeId}
    (hrun : (execOp a.eval ⟨dst, .buildSlice t n ps, ty, pos, after, none⟩).run P w = .ok (.value (.slice (some ⟨w.heap.size, 0, none⟩) n n)) (w.alloc (.cells cs.toArray e (0, 0))))
    (k : ∀ g w', Mod B w0 (cells g cs e :: H) w' → wpList P ops Q rest (a.put dst (.slice (some ⟨g, 0, none⟩) n n)) w') : wpList P ops Q (⟨dst, .buildSlice t n ps, ty, pos, after, none⟩ :: rest) a w :=
  wpList_plain rfl fun _ hK => ow_lit HM hrun fun g w' h => hK _ _ (k g w' h)
end

section
variable {P : Program} {ops : Array Oper} {rest : List Oper} {a : Act} {Q : Exit → Act → World → Prop} {w : World}
variable {dst : Option Tmp} {ty : TypeId} {pos : String} {after : Array Edge} {g : Nat × Bool}
/-- A guarded operation that is wanted. -/
theorem sl_want {op : Op} (hw : Region.wanted ⟨dst, op, ty, pos, after, some g⟩ (yielded ops a.tmps) = true) (h : wpList P ops Q (⟨dst, op, ty, pos, after, none⟩ :: rest) a w) : wpList P ops Q (⟨dst, op, ty, pos, after, some g⟩ :: rest) a w := by
  unfold wpList at h ⊢
  rw [if_pos (by rfl)] at h
  rw [if_pos hw]
  exact h
end

/-! ### 9. Slices that are read, whoever's they are -/
def Reads (w : World) (A : Option Addr) (cs : List Value) : Prop := ∀ j u, cs[j]? = some u → ∃ ad, A = some ad ∧ w.cell? (ad.add j) = some u
theorem Reads.below {w w' : World} {A : Option Addr} {cs : List Value} (h : Reads w A cs) (hb : Below w.heap.size w w') : Reads w' A cs := by
  intro j u hu
  obtain ⟨ad, he, hc⟩ := h j u hu
  exact ⟨ad, he, (hb.cell (World.block_lt_of_cell? w _ hc)).trans hc⟩
theorem Reads.nil (w : World) (A : Option Addr) : Reads w A [] := by intro j u hu; simp at hu
theorem Reads.addr {w : World} {A : Option Addr} {cs : List Value} (h : Reads w A cs) (hn : 0 < cs.length) : ∃ ad, A = some ad := by
  obtain ⟨ad, he, _⟩ := h 0 _ (List.getElem?_eq_getElem hn)
  exact ⟨ad, he⟩
theorem Reads.at {w : World} {ad : Addr} {cs : List Value} (h : Reads w (some ad) cs) : ∀ j u, cs[j]? = some u → w.cell? (ad.add j) = some u := by
  intro j u hu
  obtain ⟨ad', he, hc⟩ := h j u hu
  injection he with he
  subst he
  exact hc
theorem add_add' (ad : Addr) (i j : Nat) : (ad.add i).add j = ad.add (i + j) := by
  unfold Addr.add
  by_cases hi : i = 0
  · simp [hi]
  · by_cases hj : j = 0
    · simp [hi, hj]
    · simp [hi, hj, Nat.add_assoc]
theorem ownsRow_reads {w : World} {base : Nat} {e : TypeId} {sz n : Nat} {A : Option Addr} {c m : Nat} {xs : List Value} (h : w.ownsRow base e sz (.slice A m c) n xs) : Reads w A xs ∧ m = n ∧ n ≤ c ∧ xs.length = n * sz := by
  refine ⟨?_, ?_, ?_, h.1⟩
  · intro j u hu
    rcases h.2 with ⟨hv, hn⟩ | ⟨g, cap, cur, hv, _⟩
    · have := h.1; rw [hn, Nat.zero_mul] at this
      rw [List.eq_nil_of_length_eq_zero this] at hu; simp at hu
    · injection hv with hA hm hc
      subst hA
      exact ⟨_, rfl, h.cells (g := g) rfl j u hu⟩
  · rcases h.2 with ⟨hv, hn⟩ | ⟨g, cap, cur, hv, _⟩
    · injection hv with _ hm _; omega
    · injection hv
  · rcases h.2 with ⟨hv, hn⟩ | ⟨g, cap, cur, hv, _, _, hc, _⟩
    · omega
    · injection hv with _ _ h3; omega
theorem row_slice {w : World} {base : Nat} {e : TypeId} {sz n : Nat} {v : Value} {xs : List Value} (h : w.ownsRow base e sz v n xs) : ∃ A c, v = .slice A n c ∧ n ≤ c := by
  rcases h.2 with ⟨hv, hn⟩ | ⟨g, cap, cur, hv, _, _, hc, _⟩
  · exact ⟨none, 0, by rw [hv, hn], by omega⟩
  · exact ⟨_, _, hv, hc⟩

/-- An element of several cells, read. -/
theorem load_seg {P : Program} {w : World} {ad : Addr} {cs s : List Value} {t : TypeId} {n : Nat} [ht : Agg P t n] (h : Reads w (some ad) cs) (off : Nat) (hs : (cs.drop off).take n = s) (hl : s.length = n) :
    (Instr.loadAt t (.pointer (some (ad.add off)))).run P w = .ok (.agg s.toArray) w := by
  obtain ⟨d, hu, hd⟩ := desc_row (P := P) (t := t)
  have hload : (loadCells (ad.add off) s.length).run P w = .ok s.toArray w := run_loadCells_list (P := P) w _ s (fun j v hv => by
    rw [add_add']
    refine h.at _ _ ?_
    have hj : j < n := by rw [← hl]; exact (List.getElem?_eq_some_iff.1 hv).1
    rw [← hs, List.getElem?_take_of_lt hj, List.getElem?_drop] at hv
    exact hv)
  have hsz := ht.ok.2
  cases hq : P.info? t with
  | none => simp [hq] at hsz
  | some i =>
    have hs' : i.size = s.length := by rw [hq] at hsz; simp at hsz; omega
    have hagg : (isAgg t).run P w = .ok true w := by
      unfold isAgg
      rw [Sem.run_bind, run_underlying hu w]
      cases d <;> simp_all
    simp [Instr.loadAt, Instr.sureAddr, loadVar, Sem.run_bind, hagg, sizeOf, typeInfo, hq, hs', hload]
theorem load_one {P : Program} {w : World} {ad : Addr} {cs : List Value} {t : TypeId} {v : Value} [ht : Sca P t] (h : Reads w (some ad) cs) (off : Nat) (hs : cs[off]? = some v) :
    (Instr.loadAt t (.pointer (some (ad.add off)))).run P w = .ok v w := by
  obtain ⟨d, hu, hd⟩ := desc_plain (P := P) (t := t)
  have hag : (isAgg t).run P w = .ok false w := by
    unfold isAgg
    rw [Sem.run_bind, run_underlying hu w]
    cases d <;> simp_all
  simp only [Instr.loadAt, Instr.sureAddr, Sem.run_bind, Sem.run_pure, Result.andThen_ok, loadVar, hag]
  simp [load, Sem.run, h.at _ _ hs]
section
variable {P : Program} {ops : Array Oper} {rest : List Oper} {a : Act} {Q : Exit → Act → World → Prop} {w : World}
variable {dst : Option Tmp} {ty : TypeId} {pos : String} {after : Array Edge} {gd : Option (Nat × Bool)}
theorem sl_loadR {t : TypeId} {x : Tmp} {p : Option Addr} {v : Value} (hx : a.tmps.toList[x]? = some (.pointer p)) (hl : Aside0 ((Instr.loadAt t (.pointer p)).run P w = .ok v w))
    (k : wpList P ops Q rest (a.put dst v) w) : wpList P ops Q (⟨dst, .load t (.tmp x), ty, pos, after, none⟩ :: rest) a w :=
  Kd.event_run rfl (run_loadR hx hl.out) k
theorem sl_loadH {B : Nat} {w0 : World} {H HS : List As} (HM : Mod B w0 H w) {t : TypeId} {x : Tmp} {p : Option Addr} {v : Value} (hx : a.tmps.toList[x]? = some (.pointer p)) (hl : Aside0 (∀ w', Mod B w0 HS w' → (Instr.loadAt t (.pointer p)).run P w' = .ok v w')) (hs : Sub HS H)
    (k : wpList P ops Q rest (a.put dst v) w) : wpList P ops Q (⟨dst, .load t (.tmp x), ty, pos, after, none⟩ :: rest) a w :=
  Kd.event_run rfl (run_loadR hx (hl.out _ HM.sub)) k
end

/-- Elements of one width, laid one behind the other. -/
theorem flat_seg {α : Type} {enc : α → List Value} {sz : Nat} (hsz : ∀ x, (enc x).length = sz) : ∀ (l : List α) (k : Nat) (x : α), l[k]? = some x → ((l.flatMap enc).drop (k * sz)).take sz = enc x
  | [], _, _, h => by simp at h
  | y :: l, 0, x, h => by
    have : y = x := by simpa using h
    subst this
    simp [List.flatMap_cons, ← hsz y]
  | y :: l, k + 1, x, h => by
    have h' : l[k]? = some x := by simpa using h
    rw [List.flatMap_cons, Nat.succ_mul, Nat.add_comm, ← List.drop_drop]
    have : (enc y ++ l.flatMap enc).drop sz = l.flatMap enc := by rw [← hsz y]; simp
    rw [this]
    exact flat_seg hsz l k x h'
theorem flat_len {α : Type} {enc : α → List Value} {sz : Nat} (hsz : ∀ x, (enc x).length = sz) (l : List α) : (l.flatMap enc).length = l.length * sz := by
  induction l with
  | nil => simp
  | cons x l ih => simp [List.flatMap_cons, hsz, ih, Nat.succ_mul, Nat.add_comm]
end Go.Proofs.Ytghfoooldcbdnaa.SL
set_option linter.unusedVariables false
namespace Go.Proofs.Ytghfoooldcbdnaa
open Go.RowKit Go.Proofs.Ytghfoooldcbdnaa.SL
instance : Sca Try.prog 3 := ⟨⟨by kernel_rfl, by kernel_rfl⟩⟩
instance : Sca Try.prog 4 := ⟨⟨by kernel_rfl, by kernel_rfl⟩⟩
instance : Sca Try.prog 5 := ⟨⟨by kernel_rfl, by kernel_rfl⟩⟩
instance : Sca Try.prog 23 := ⟨⟨by kernel_rfl, by kernel_rfl⟩⟩
instance : Sca Try.prog 26 := ⟨⟨by kernel_rfl, by kernel_rfl⟩⟩
instance : Agg Try.prog 28 3 := ⟨⟨by kernel_rfl, by kernel_rfl⟩⟩
instance : Sca Try.prog 30 := ⟨⟨by kernel_rfl, by kernel_rfl⟩⟩
instance : Agg Try.prog 32 3 := ⟨⟨by kernel_rfl, by kernel_rfl⟩⟩
instance : Sca Try.prog 33 := ⟨⟨by kernel_rfl, by kernel_rfl⟩⟩
instance : Agg Try.prog 35 4 := ⟨⟨by kernel_rfl, by kernel_rfl⟩⟩
instance : Sca Try.prog 36 := ⟨⟨by kernel_rfl, by kernel_rfl⟩⟩
instance : Agg Try.prog 38 4 := ⟨⟨by kernel_rfl, by kernel_rfl⟩⟩
instance : Agg Try.prog 39 2 := ⟨⟨by kernel_rfl, by kernel_rfl⟩⟩
instance : Agg Try.prog 42 4 := ⟨⟨by kernel_rfl, by kernel_rfl⟩⟩
instance : Sca Try.prog 43 := ⟨⟨by kernel_rfl, by kernel_rfl⟩⟩
instance : Sca Try.prog 49 := ⟨⟨by kernel_rfl, by kernel_rfl⟩⟩
instance : Agg Try.prog 51 5 := ⟨⟨by kernel_rfl, by kernel_rfl⟩⟩
instance : Agg Try.prog 53 8 := ⟨⟨by kernel_rfl, by kernel_rfl⟩⟩
instance : Agg Try.prog 54 8 := ⟨⟨by kernel_rfl, by kernel_rfl⟩⟩
instance : Agg Try.prog 61 3 := ⟨⟨by kernel_rfl, by kernel_rfl⟩⟩
instance : Sca Try.prog 64 := ⟨⟨by kernel_rfl, by kernel_rfl⟩⟩
instance : Agg Try.prog 70 14 := ⟨⟨by kernel_rfl, by kernel_rfl⟩⟩
instance : Sca Try.prog 71 := ⟨⟨by kernel_rfl, by kernel_rfl⟩⟩
instance : Sca Try.prog 73 := ⟨⟨by kernel_rfl, by kernel_rfl⟩⟩
instance : Sca Try.prog 86 := ⟨⟨by kernel_rfl, by kernel_rfl⟩⟩
instance : Sca Try.prog 87 := ⟨⟨by kernel_rfl, by kernel_rfl⟩⟩
instance : Sca Try.prog 88 := ⟨⟨by kernel_rfl, by kernel_rfl⟩⟩
instance : Agg Try.prog 90 6 := ⟨⟨by kernel_rfl, by kernel_rfl⟩⟩
instance : Agg Try.prog 92 11 := ⟨⟨by kernel_rfl, by kernel_rfl⟩⟩
instance : Sca Try.prog 109 := ⟨⟨by kernel_rfl, by kernel_rfl⟩⟩
instance : Sca Try.prog 110 := ⟨⟨by kernel_rfl, by kernel_rfl⟩⟩
instance : Agg Try.prog 112 6 := ⟨⟨by kernel_rfl, by kernel_rfl⟩⟩
instance : Agg Try.prog 125 16 := ⟨⟨by kernel_rfl, by kernel_rfl⟩⟩
instance : Agg Try.prog 127 19 := ⟨⟨by kernel_rfl, by kernel_rfl⟩⟩
instance : Sca Try.prog 131 := ⟨⟨by kernel_rfl, by kernel_rfl⟩⟩
instance : Sca Try.prog 132 := ⟨⟨by kernel_rfl, by kernel_rfl⟩⟩
instance : Agg Try.prog 134 6 := ⟨⟨by kernel_rfl, by kernel_rfl⟩⟩
instance : Agg Try.prog 140 4 := ⟨⟨by kernel_rfl, by kernel_rfl⟩⟩
instance : Agg Try.prog 162 4 := ⟨⟨by kernel_rfl, by kernel_rfl⟩⟩
instance : Zero Try.prog 4 [.bool false] := ⟨by kernel_rfl⟩
instance : Zero Try.prog 28 [.int .i64 0, .slice none 0 0, .int .i64 0] := ⟨by kernel_rfl⟩
instance : Zero Try.prog 32 [.int .i64 0, .int .i64 0, .slice none 0 0] := ⟨by kernel_rfl⟩
instance : Zero Try.prog 35 [.int .i64 0, .int .i64 0, .slice none 0 0, .slice none 0 0] := ⟨by kernel_rfl⟩
instance : Zero Try.prog 38 [.int .i64 0, .int .i64 0, .bool false, .int .u64 0] := ⟨by kernel_rfl⟩
instance : Zero Try.prog 39 [.bool false, .bool false] := ⟨by kernel_rfl⟩
instance : Zero Try.prog 42 [.int .i64 0, .int .i64 0, .bool false, .int .u64 0] := ⟨by kernel_rfl⟩
instance : Zero Try.prog 43 [.slice none 0 0] := ⟨by kernel_rfl⟩
instance : Zero Try.prog 51 [.int .i64 0, .string ⟨#[]⟩, .string ⟨#[]⟩, .int .i64 0, .int .i64 0] := ⟨by kernel_rfl⟩
instance : Zero Try.prog 53 [.int .i64 0, .string ⟨#[]⟩, .string ⟨#[]⟩, .int .i64 0, .int .i64 0, .int .i64 0, .int .i64 0, .int .i64 0] := ⟨by kernel_rfl⟩
instance : Zero Try.prog 54 [.int .i64 0, .string ⟨#[]⟩, .string ⟨#[]⟩, .int .i64 0, .int .i64 0, .int .i64 0, .int .i64 0, .int .i64 0] := ⟨by kernel_rfl⟩
instance : Zero Try.prog 61 [.int .i64 0, .int .i64 0, .slice none 0 0] := ⟨by kernel_rfl⟩
instance : Zero Try.prog 70 [.int .i64 0, .int .i64 0, .int .i64 0, .string ⟨#[]⟩, .string ⟨#[]⟩, .int .i64 0, .int .i64 0, .int .i64 0, .int .i64 0, .int .i64 0, .int .i64 0, .int .i64 0, .bool false, .int .u64 0] := ⟨by kernel_rfl⟩
instance : Zero Try.prog 92 [.int .i64 0, .int .i64 0, .int .i64 0, .string ⟨#[]⟩, .string ⟨#[]⟩, .int .i64 0, .int .i64 0, .int .i64 0, .int .i64 0, .int .i64 0, .bool false] := ⟨by kernel_rfl⟩
instance : Zero Try.prog 112 [.int .i64 0, .int .i64 0, .int .i64 0, .slice none 0 0, .slice none 0 0, .slice none 0 0] := ⟨by kernel_rfl⟩
instance : Zero Try.prog 162 [.int .i64 0, .int .i64 0, .slice none 0 0, .int .i64 0] := ⟨by kernel_rfl⟩
instance : Elem Try.prog 26 36 1 8 := .mk' (by kernel_rfl) (by kernel_rfl) (by decide) (by decide)
instance : Elem Try.prog 30 54 8 80 := .mk' (by kernel_rfl) (by kernel_rfl) (by decide) (by decide)
instance : Elem Try.prog 33 4 1 1 := .mk' (by kernel_rfl) (by kernel_rfl) (by decide) (by decide)
instance : Elem Try.prog 43 53 8 80 := .mk' (by kernel_rfl) (by kernel_rfl) (by decide) (by decide)
instance : Elem Try.prog 71 61 3 40 := .mk' (by kernel_rfl) (by kernel_rfl) (by decide) (by decide)
instance : Elem Try.prog 73 5 1 1 := .mk' (by kernel_rfl) (by kernel_rfl) (by decide) (by decide)
instance : Elem Try.prog 87 42 4 32 := .mk' (by kernel_rfl) (by kernel_rfl) (by decide) (by decide)
instance : Elem Try.prog 88 51 5 56 := .mk' (by kernel_rfl) (by kernel_rfl) (by decide) (by decide)
instance : Elem Try.prog 109 162 4 48 := .mk' (by kernel_rfl) (by kernel_rfl) (by decide) (by decide)
instance : Elem Try.prog 110 164 4 48 := .mk' (by kernel_rfl) (by kernel_rfl) (by decide) (by decide)
instance : Elem Try.prog 119 32 3 40 := .mk' (by kernel_rfl) (by kernel_rfl) (by decide) (by decide)
instance : Elem Try.prog 132 140 4 48 := .mk' (by kernel_rfl) (by kernel_rfl) (by decide) (by decide)
end Go.Proofs.Ytghfoooldcbdnaa
set_option linter.unusedVariables false
set_option linter.unusedSimpArgs false
namespace Go.Proofs.Ytghfoooldcbdnaa.SL
open Go.RowKit Go.Proofs.YtghfoooldcbdnaaW.PrintWords

/-- Cells that are one's own and are read, no more. -/
def seen (A : Option Addr) (cs : List Value) : As where
  sat F w := (∀ ad, A = some ad → F ad.block) ∧ Reads w A cs
  loc h hk := ⟨h.1, fun j u hu => by
    obtain ⟨ad, e, h2⟩ := h.2 j u hu
    refine ⟨ad, e, ?_⟩
    have h3 := hk ad.block (h.1 ad e)
    have h4 : (ad.add j).block = ad.block := by unfold Addr.add; split <;> rfl
    rw [← h2]
    simp only [World.cell?, h4, h3]⟩
  up h hk := ⟨fun ad e => hk _ (h.1 ad e), h.2⟩
class SeenAt (H : List As) (A : Option Addr) (cs : outParam (List Value)) : Prop where
  get : ∀ {F : Nat → Prop} {w : World}, Sat H F w → Reads w A cs
instance SeenAt.head {A : Option Addr} {cs : List Value} {H : List As} : SeenAt (seen A cs :: H) A cs := ⟨fun ⟨_, _, h2, _⟩ => h2.2⟩
instance (priority := low) SeenAt.tail {A : Option Addr} {cs : List Value} {C : As} {H : List As} [h : SeenAt H A cs] : SeenAt (C :: H) A cs := ⟨fun ⟨_, _, _, h3⟩ => h.get h3⟩
section
variable {P : Program} {ops : Array Oper} {rest : List Oper} {a : Act} {Q : Exit → Act → World → Prop} {B : Nat} {w0 w : World} {H H' R HS : List As}
variable {dst : Option Tmp} {ty : TypeId} {pos : String} {after : Array Edge} {gd : Option (Nat × Bool)} {K : Act → World → Prop} {S : World → Prop} {i : Nat} {p : List (Nat × Nat)}
end
end Go.Proofs.Ytghfoooldcbdnaa.SL
set_option linter.unusedVariables false
set_option linter.unusedSimpArgs false
namespace Go.Proofs.Ytghfoooldcbdnaa.SL
open Go.RowKit Go.Proofs.YtghfoooldcbdnaaW.PrintWords
section
variable {P : Program} {ops : Array Oper} {rest : List Oper} {a : Act} {Q : Exit → Act → World → Prop} {B : Nat} {w0 w : World} {H H' R HS : List As}
variable {dst : Option Tmp} {ty : TypeId} {pos : String} {after : Array Edge} {gd : Option (Nat × Bool)} {K : Act → World → Prop} {S : World → Prop} {i : Nat} {p : List (Nat × Nat)}
theorem run_append_none {t e : TypeId} {sz bytes : Nat} [he : Elem P t e sz bytes] {v : Value} {n c : Nat} {xs : List Value} (ho : w.ownsRow 0 e sz v n xs) : (Builtin.append_ #[t, t] ty #[v, .slice none 0 c]).run P w = .ok v w := by
  obtain ⟨ht, ⟨i, z, hi, hz, hs, hby, hzs⟩, hs0, hb0⟩ := he.ok
  rcases ho.2 with ⟨rfl, rfl⟩ | ⟨g, cap, cur, rfl, _, _, hnc, _⟩
  · simp [Builtin.append_, run_underlying ht, sizeOf, typeInfo, hi, Builtin.lenOf, Builtin.firstCells]
  · simp [Builtin.append_, run_underlying ht, sizeOf, typeInfo, hi, Builtin.lenOf, Builtin.firstCells, hnc, storeCells]
theorem ow_append_reads {s x : Operand} {t e : TypeId} {sz bytes : Nat} {v : Value} {n : Nat} {xs : List Value} (HM : Mod B w0 H w) (hs : Ev a s v) (hr : Row H v e sz n xs R)
    {A : Option Addr} {m c : Nat} {news : List Value} (hx : Ev a x (.slice A m c)) (he : Elem P t e sz bytes) (hnews : Reads w A news) (hl : news.length = m * sz) (h1 : Ones news) (hb : (n + m) * bytes ≤ 140737488355328)
    (k : ∀ v' w', Mod B w0 (row v' e sz (n + m) (xs ++ news) :: R) w' → K (a.put dst v') w') :
    Oper.wp P ⟨dst, .call { callee := .builtin .append, args := #[s, x], argTypes := #[t, t] }, ty, pos, after, gd⟩ a w K Q := by
  cases A with
  | some ad => exact ow_append HM hs hr hx he hl hnews.at h1 hb k
  | none =>
    have hn : news = [] := by
      cases news with
      | nil => rfl
      | cons y ys =>
        obtain ⟨ad, h, _⟩ := hnews 0 _ rfl
        cases h
    subst hn
    have hm : m = 0 := by
      obtain ⟨_, _, hs0, _⟩ := he.ok
      have h2 : m * sz = 0 := by simpa using hl.symm
      rcases Nat.mul_eq_zero.1 h2 with h2 | h2
      · exact h2
      · omega
    subst hm
    unfold Oper.wp execOp
    simp only [resolve, invoke, builtin, Sem.run_bind, Sem.run_pure, Result.andThen_ok, List.map_toArray, List.map_cons, List.map_nil, hs.eq, hx.eq, run_append_none (P := P) (t := t) (ty := ty) (HM.rowOwn v)]
    refine k v w ?_
    rw [Nat.add_zero, List.append_nil]
    exact HM.pickRow v
theorem sl_append_reads {s x : Operand} {t e : TypeId} {sz bytes : Nat} {v : Value} {n : Nat} {xs : List Value} (HM : Mod B w0 H w) (hs : Ev a s v) (hr : Row H v e sz n xs R)
    {A : Option Addr} {m c : Nat} {news : List Value} (hx : Ev a x (.slice A m c)) (he : Elem P t e sz bytes) (hnews : Reads w A news) (hl : news.length = m * sz) (h1 : Ones news) (hb : (n + m) * bytes ≤ 140737488355328)
    (k : ∀ v' w', Mod B w0 (row v' e sz (n + m) (xs ++ news) :: R) w' → wpList P ops Q rest (a.put dst v') w') :
    wpList P ops Q (⟨dst, .call { callee := .builtin .append, args := #[s, x], argTypes := #[t, t] }, ty, pos, after, none⟩ :: rest) a w :=
  wpList_plain rfl fun _ hK => ow_append_reads HM hs hr hx he hnews hl h1 hb fun v' w' h => hK _ _ (k v' w' h)
end
end Go.Proofs.Ytghfoooldcbdnaa.SL
