/-
  MORE OPERATIONS ON ONE's OWN THINGS: make, texts and bytes turned into each other.
-/
import Derived.Test.YtghfoooldcbdnaaTy
import Derived.Laws.BytesArg
import Derived.Laws.IdiomStrings
import Derived.Laws.MakeOwn
import Derived.Laws.OwnMore
set_option linter.unusedVariables false
set_option linter.unusedSimpArgs false
namespace Go.Proofs.Ytghfoooldcbdnaa.SL
open Go.RowKit Go.Proofs.YtghfoooldcbdnaaW.PrintWords

/-- Cells that are one's own and are read, no more. -/
def seen (A : Option Addr) (cs : List Value) : As where
  sat F w := (∀ ad, A = some ad → F ad.block) ∧ Reads w A cs
  loc h hk := ⟨h.1, fun j u hu => by
    obtain ⟨ad, e, h2⟩ := h.2 j u hu
    refine ⟨ad, e, ?_⟩
    have h3 := hk ad.block (h.1 ad e)
    have h4 : (ad.add j).block = ad.block := by unfold Addr.add; split <;> rfl
    rw [← h2]
    simp only [World.cell?, h4, h3]⟩
  up h hk := ⟨fun ad e => hk _ (h.1 ad e), h.2⟩
class SeenAt (H : List As) (A : Option Addr) (cs : outParam (List Value)) : Prop where
  get : ∀ {F : Nat → Prop} {w : World}, Sat H F w → Reads w A cs
instance SeenAt.head {A : Option Addr} {cs : List Value} {H : List As} : SeenAt (seen A cs :: H) A cs := ⟨fun ⟨_, _, h2, _⟩ => h2.2⟩
instance (priority := low) SeenAt.tail {A : Option Addr} {cs : List Value} {C : As} {H : List As} [h : SeenAt H A cs] : SeenAt (C :: H) A cs := ⟨fun ⟨_, _, _, h3⟩ => h.get h3⟩
theorem Mod.seenAt {B : Nat} {w0 w : World} {H : List As} (h : Mod B w0 H w) (A : Option Addr) {cs : List Value} [s : SeenAt H A cs] : Reads w A cs := s.get h.sat

section
variable {P : Program} {ops : Array Oper} {rest : List Oper} {a : Act} {Q : Exit → Act → World → Prop} {B : Nat} {w0 w : World} {H H' R HS : List As}
variable {dst : Option Tmp} {ty : TypeId} {pos : String} {after : Array Edge} {gd : Option (Nat × Bool)} {K : Act → World → Prop} {S : World → Prop} {i : Nat} {p : List (Nat × Nat)}
theorem ow_make (HM : Mod B w0 H w) {t e : TypeId} {x y : Operand} {n : Nat} {z : Value} (he : P.underlying t = some (.slice e)) (hz : (P.info? e).map (fun i => (i.zero.map (·.cells), i.size, i.bytes)) = some (some #[z], 1, 1)) (hx : Ev a x (.int .i64 n)) (hy : Ev a y (.int .i64 n)) (hn : n ≤ 1000000)
    (k : ∀ g w', Mod B w0 (cells g (List.replicate n z) e :: H) w' → K (a.put dst (.slice (some ⟨g, 0, none⟩) n n)) w') : Oper.wp P ⟨dst, .makeSlice t x y, ty, pos, after, gd⟩ a w K Q := by
  obtain ⟨i, hi, hie⟩ := Option.map_eq_some_iff.1 hz
  simp only [Prod.mk.injEq] at hie
  obtain ⟨h1, h2, h3⟩ := hie
  obtain ⟨zv, hzv, hzc⟩ := Option.map_eq_some_iff.1 h1
  have hrun := run_make (P := P) w t e i zv he hi hzv .i64 .i64 n n (by omega) (Int.le_refl _) (by rw [h3]; omega) (by omega)
  refine ow_new HM (cs := List.replicate n z) (t := e) (v := fun g => .slice (some ⟨g, 0, none⟩) n n) ?_ k
  have hm : madeCells #[z] n = (List.replicate n z).toArray := by
    rw [← toList_madeCells_one z n, Array.toArray_toList]
  rw [hzc, h2, Int.toNat_natCast, Nat.mul_one, hm] at hrun
  simp only [execOp, hx.eq, hy.eq, Sem.run_bind, hrun, Result.andThen_ok, Sem.run_pure]
theorem sl_make (HM : Mod B w0 H w) {t e : TypeId} {x y : Operand} {n : Nat} {z : Value} (he : P.underlying t = some (.slice e)) (hz : (P.info? e).map (fun i => (i.zero.map (·.cells), i.size, i.bytes)) = some (some #[z], 1, 1)) (hx : Ev a x (.int .i64 n)) (hy : Ev a y (.int .i64 n)) (hn : n ≤ 1000000)
    (k : ∀ g w', Mod B w0 (cells g (List.replicate n z) e :: H) w' → wpList P ops Q rest (a.put dst (.slice (some ⟨g, 0, none⟩) n n)) w') : wpList P ops Q (⟨dst, .makeSlice t x y, ty, pos, after, none⟩ :: rest) a w :=
  wpList_plain rfl fun _ hK => ow_make HM he hz hx hy hn fun g w' h => hK _ _ (k g w' h)

/-- Bytes that can be read, as a text. -/
theorem run_text {src u e : TypeId} (hs : P.underlying src = some (.slice e)) (he : P.underlying e = some (.int .u8)) (hd : P.underlying u = some .string) {A : Option Addr} {c : Nat} {xs : List Int} (hr : Reads w A (xs.map (.int .u8))) :
    (convert src u (.slice A xs.length c)).run P w = .ok (.string (strOfNums xs)) w := by
  cases A with
  | none =>
    have : xs = [] := by
      cases xs with
      | nil => rfl
      | cons x xs => obtain ⟨ad, h, _⟩ := hr 0 _ rfl; cases h
    subst this
    rw [run_convert_bytes_nil w src e hs he _ _ u hd]
    rfl
  | some ad =>
    have hl := run_loadCells_list (P := P) w ad (xs.map (Value.int .u8)) (fun j v hj => hr.at j v hj)
    rw [List.length_map] at hl
    rw [run_convert_bytes_string w src u e _ _ c hs he hd, run_bytesToString w ad xs.length c xs hl, foldl_push_bytes]
    simp [strOfNums, ByteArray.empty, ByteArray.emptyWithCapacity]
    rfl
theorem run_textR {src u : TypeId} {x : Tmp} {v s : Value} (hx : a.tmps.toList[x]? = some v) (hl : (convert src u v).run P w = .ok s w) :
    (execOp a.eval ⟨dst, .convert src u (.tmp x), ty, pos, after, gd⟩).run P w = .ok (.value s) w := by
  simp only [execOp, eval_at hx, Sem.run_bind, hl, Result.andThen_ok, Sem.run_pure]
/-- A text of one's own block, whole. -/
theorem sl_textB (HM : Mod B w0 H w) {src u e : TypeId} {x : Tmp} {g c : Nat} {n : Nat} {xs : List Int} {tb : TypeId} {fr : Nat × Nat} (hs : P.underlying src = some (.slice e)) (he : P.underlying e = some (.int .u8)) (hd : P.underlying u = some .string)
    (hx : a.tmps.toList[x]? = some (.slice (some ⟨g, 0, none⟩) n c)) (hh : Has H g (.cells (xs.map (Value.int .u8)).toArray tb fr)) (hn : xs.length = n)
    (k : wpList P ops Q rest (a.put dst (.string (strOfNums xs))) w) : wpList P ops Q (⟨dst, .convert src u (.tmp x), ty, pos, after, none⟩ :: rest) a w := by
  subst hn
  refine Kd.event_run rfl (run_textR hx (run_text hs he hd (fun j v hj => ⟨_, rfl, ?_⟩))) k
  exact cells_at (HM.has g) j v hj
/-- A text's bytes, new. -/
theorem ow_bytes (HM : Mod B w0 H w) {src u e : TypeId} {x : Operand} {s : ByteArray} (hs : P.underlying src = some .string) (hd : P.underlying u = some (.slice e)) (he : P.underlying e = some (.int .u8)) (hx : Ev a x (.string s))
    (k : ∀ A c w', Mod B w0 (seen A (Lib.strCells s) :: H) w' → K (a.put dst (.slice A s.size c)) w') : Oper.wp P ⟨dst, .convert src u x, ty, pos, after, gd⟩ a w K Q := by
  have hrun := run_bytes_of_string (P := P) w src u e s hs hd he
  unfold Oper.wp execOp
  simp only [hx.eq, Sem.run_bind, hrun, Result.andThen_ok, Sem.run_pure]
  have hb : Below w.heap.size w (w.drew.alloc (.cells (bytesRow s (grownCap w s.size 0 e)) e ((bytesRow s (grownCap w s.size 0 e)).size, (bytesRow s (grownCap w s.size 0 e)).size + 1))) := below_alloc (Below.refl _ _).drew _
  have hg : (w.drew.alloc (.cells (bytesRow s (grownCap w s.size 0 e)) e ((bytesRow s (grownCap w s.size 0 e)).size, (bytesRow s (grownCap w s.size 0 e)).size + 1))).heap[w.heap.size]? = some (.cells (bytesRow s (grownCap w s.size 0 e)).toList.toArray e ((bytesRow s (grownCap w s.size 0 e)).size, (bytesRow s (grownCap w s.size 0 e)).size + 1)) := by
    rw [Array.toArray_toList]
    show (w.heap.push _)[w.heap.size]? = _
    simp
  refine k _ _ _ (HM.grow hb _ ⟨?_, ?_⟩)
  · intro ad e1
    cases e1
    exact ⟨Nat.le_refl _, (Array.getElem?_eq_some_iff.1 hg).1⟩
  · intro j v hj
    refine ⟨_, rfl, cells_at hg j v ?_⟩
    have h1 : (bytesRow s (grownCap w s.size 0 e)).toList = Lib.strCells s ++ List.replicate (grownCap w s.size 0 e - s.size) (.int .u8 0) := by
      unfold bytesRow Lib.strCells
      simp
    rw [h1, List.getElem?_append_left (List.getElem?_eq_some_iff.1 hj).1]
    exact hj
theorem sl_bytes (HM : Mod B w0 H w) {src u e : TypeId} {x : Operand} {s : ByteArray} (hs : P.underlying src = some .string) (hd : P.underlying u = some (.slice e)) (he : P.underlying e = some (.int .u8)) (hx : Ev a x (.string s))
    (k : ∀ A c w', Mod B w0 (seen A (Lib.strCells s) :: H) w' → wpList P ops Q rest (a.put dst (.slice A s.size c)) w') : wpList P ops Q (⟨dst, .convert src u x, ty, pos, after, none⟩ :: rest) a w :=
  wpList_plain rfl fun _ hK => ow_bytes HM hs hd he hx fun A c w' h => hK _ _ (k A c w' h)
end
end Go.Proofs.Ytghfoooldcbdnaa.SL
