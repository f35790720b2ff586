/-
  MORE OPERATIONS ON ONE's OWN THINGS: slices of slices that are read.
-/
import Derived.Test.YtghfoooldcbdnaaOps2
set_option linter.unusedVariables false
set_option linter.unusedSimpArgs false
namespace Go.Proofs.Ytghfoooldcbdnaa.SL
open Go.RowKit Go.Proofs.YtghfoooldcbdnaaW.PrintWords
/-- Where a slice of a slice lies. -/
def subA (A : Option Addr) (l c sz : Nat) : Option Addr := if c = l then A else A.map (·.add (l * sz))
theorem Reads.take {w : World} {A : Option Addr} {cs : List Value} (h : Reads w A cs) (n : Nat) : Reads w A (cs.take n) := by
  intro j u hu
  refine h j u ?_
  have hj : j < n := by
    have := (List.getElem?_eq_some_iff.1 hu).1
    rw [List.length_take] at this
    omega
  rwa [List.getElem?_take_of_lt hj] at hu
theorem Reads.drop {w : World} {A : Option Addr} {cs : List Value} (h : Reads w A cs) (l c sz : Nat) (hc : cs.length ≤ c * sz) : Reads w (subA A l c sz) (cs.drop (l * sz)) := by
  intro j u hu
  unfold subA
  by_cases hcl : c = l
  · subst hcl
    rw [List.drop_eq_nil_of_le hc] at hu
    simp at hu
  · rw [if_neg hcl]
    rw [List.getElem?_drop] at hu
    obtain ⟨ad, rfl, h2⟩ := h _ u hu
    exact ⟨_, rfl, by rw [add_add']; exact h2⟩
section
variable {P : Program} {ops : Array Oper} {rest : List Oper} {a : Act} {Q : Exit → Act → World → Prop} {B : Nat} {w0 w : World} {H H' R HS : List As}
variable {dst : Option Tmp} {ty : TypeId} {pos : String} {after : Array Edge} {gd : Option (Nat × Bool)} {K : Act → World → Prop} {S : World → Prop} {i : Nat} {p : List (Nat × Nat)}
variable {t e : TypeId} {sz n c l h : Nat} {A : Option Addr} {x lo up : Operand} {kl kh : IntKind}
theorem run_sizeOf (hi : (P.info? e).map (·.size) = some sz) : (sizeOf e).run P w = .ok sz w := by
  obtain ⟨i, h1, h2⟩ := Option.map_eq_some_iff.1 hi
  simp [sizeOf, typeInfo, h1, h2]
theorem run_subL (ht : P.underlying t = some (.slice e)) (hi : (P.info? e).map (·.size) = some sz) (hl : l ≤ n) :
    (Instr.slice t (.slice A n c) (some (.int kl l)) none none).run P w = .ok (.slice (subA A l c sz) (n - l) (c - l)) w := by
  have hs := run_sizeOf (w := w) hi
  have hb := run_sliceBound (P := P) (w := w) kl (l : Int) n .sliceB (by omega) (by omega)
  simp [Instr.slice, run_underlying ht, Instr.sliceBounds, hb, hs, subA]
theorem run_subH (ht : P.underlying t = some (.slice e)) (hi : (P.info? e).map (·.size) = some sz) (hl : h ≤ c) :
    (Instr.slice t (.slice A n c) none (some (.int kh h)) none).run P w = .ok (.slice A h c) w := by
  have hs := run_sizeOf (w := w) hi
  have hb := run_sliceBound (P := P) (w := w) kh (h : Int) c .sliceAcap (by omega) (by omega)
  have e0 : ∀ ad : Addr, ad.add 0 = ad := fun ad => by unfold Addr.add; simp
  have e1 : A.map (fun ad => ad.add 0) = A := by cases A <;> simp [e0]
  by_cases hc : c = 0
  · subst hc; simp [Instr.slice, run_underlying ht, Instr.sliceBounds, hb, hs]
  · simp [Instr.slice, run_underlying ht, Instr.sliceBounds, hb, hs, hc, e1]
theorem run_subLH (ht : P.underlying t = some (.slice e)) (hi : (P.info? e).map (·.size) = some sz) (hl : l ≤ h) (hc : h ≤ c) :
    (Instr.slice t (.slice A n c) (some (.int kl l)) (some (.int kh h)) none).run P w = .ok (.slice (subA A l c sz) (h - l) (c - l)) w := by
  have hs := run_sizeOf (w := w) hi
  have hb := run_sliceBound (P := P) (w := w) kh (h : Int) c .sliceAcap (by omega) (by omega)
  have hb2 := run_sliceBound (P := P) (w := w) kl (l : Int) h .sliceB (by omega) (by omega)
  simp [Instr.slice, run_underlying ht, Instr.sliceBounds, hb, hb2, hs, subA]
theorem elem_of (ht : P.underlying t = some (.slice e)) : P.underlying t = some (.slice (P.elem t)) := by rw [ht]; simp [Program.elem, ht]
theorem ex_subL (hx : Ev a x (.slice A n c)) (hlo : Ev a lo (.int kl l)) (ht : P.underlying t = some (.slice e)) (hi : (P.info? e).map (·.size) = some sz) (hl : l ≤ n) :
    (execOp a.eval ⟨dst, .slice t x (some lo) none none, ty, pos, after, gd⟩).run P w = .ok (.value (.slice (subA A l c sz) (n - l) (c - l))) w := by
  simp only [execOp, hx.eq, hlo.eq, Option.map_some, Option.map_none, Sem.run_bind, run_sliceAt_slice (h := elem_of ht), run_subL ht hi hl, Result.andThen_ok, Sem.run_pure]
theorem ex_subH (hx : Ev a x (.slice A n c)) (hhi : Ev a up (.int kh h)) (ht : P.underlying t = some (.slice e)) (hi : (P.info? e).map (·.size) = some sz) (hl : h ≤ c) :
    (execOp a.eval ⟨dst, .slice t x none (some up) none, ty, pos, after, gd⟩).run P w = .ok (.value (.slice A h c)) w := by
  simp only [execOp, hx.eq, hhi.eq, Option.map_some, Option.map_none, Sem.run_bind, run_sliceAt_slice (h := elem_of ht), run_subH ht hi hl, Result.andThen_ok, Sem.run_pure]
theorem ex_subLH (hx : Ev a x (.slice A n c)) (hlo : Ev a lo (.int kl l)) (hhi : Ev a up (.int kh h)) (ht : P.underlying t = some (.slice e)) (hi : (P.info? e).map (·.size) = some sz) (hl : l ≤ h) (hc : h ≤ c) :
    (execOp a.eval ⟨dst, .slice t x (some lo) (some up) none, ty, pos, after, gd⟩).run P w = .ok (.value (.slice (subA A l c sz) (h - l) (c - l))) w := by
  simp only [execOp, hx.eq, hlo.eq, hhi.eq, Option.map_some, Option.map_none, Sem.run_bind, run_sliceAt_slice (h := elem_of ht), run_subLH ht hi hl hc, Result.andThen_ok, Sem.run_pure]
theorem sl_subL (l : Nat) (hx : Ev a x (.slice A n c)) (hlo : Ev a lo (.int kl l)) (ht : P.underlying t = some (.slice e)) (hi : (P.info? e).map (·.size) = some sz) (hl : l ≤ n)
    (k : wpList P ops Q rest (a.put dst (.slice (subA A l c sz) (n - l) (c - l))) w) : wpList P ops Q (⟨dst, .slice t x (some lo) none none, ty, pos, after, none⟩ :: rest) a w :=
  Kd.event_run rfl (ex_subL hx hlo ht hi hl) k
theorem sl_subH (h : Nat) (hx : Ev a x (.slice A n c)) (hhi : Ev a up (.int kh h)) (ht : P.underlying t = some (.slice e)) (hi : (P.info? e).map (·.size) = some sz) (hl : h ≤ c)
    (k : wpList P ops Q rest (a.put dst (.slice A h c)) w) : wpList P ops Q (⟨dst, .slice t x none (some up) none, ty, pos, after, none⟩ :: rest) a w :=
  Kd.event_run rfl (ex_subH hx hhi ht hi hl) k
theorem sl_subLH (l h : Nat) (hx : Ev a x (.slice A n c)) (hlo : Ev a lo (.int kl l)) (hhi : Ev a up (.int kh h)) (ht : P.underlying t = some (.slice e)) (hi : (P.info? e).map (·.size) = some sz) (hl : l ≤ h) (hc : h ≤ c)
    (k : wpList P ops Q rest (a.put dst (.slice (subA A l c sz) (h - l) (c - l))) w) : wpList P ops Q (⟨dst, .slice t x (some lo) (some up) none, ty, pos, after, none⟩ :: rest) a w :=
  Kd.event_run rfl (ex_subLH hx hlo hhi ht hi hl hc) k
theorem t_subL (l : Nat) (ho : ops.toList[i]? = some ⟨dst, .slice t x (some lo) none none, ty, pos, after, gd⟩) (hw : Region.wanted ⟨dst, .slice t x (some lo) none none, ty, pos, after, gd⟩ (yielded ops a.tmps) = true)
    (hx : Ev a x (.slice A n c)) (hlo : Ev a lo (.int kl l)) (ht : P.underlying t = some (.slice e)) (hi : (P.info? e).map (·.size) = some sz) (hl : l ≤ n)
    (k : wpT P ops Q S p (a.put dst (.slice (subA A l c sz) (n - l) (c - l))) w) : wpT P ops Q S ((i, 1) :: p) a w :=
  t_pure ho hw (fun w => ex_subL hx hlo ht hi hl) k
theorem t_subLH (l h : Nat) (ho : ops.toList[i]? = some ⟨dst, .slice t x (some lo) (some up) none, ty, pos, after, gd⟩) (hw : Region.wanted ⟨dst, .slice t x (some lo) (some up) none, ty, pos, after, gd⟩ (yielded ops a.tmps) = true)
    (hx : Ev a x (.slice A n c)) (hlo : Ev a lo (.int kl l)) (hhi : Ev a up (.int kh h)) (ht : P.underlying t = some (.slice e)) (hi : (P.info? e).map (·.size) = some sz) (hl : l ≤ h) (hc : h ≤ c)
    (k : wpT P ops Q S p (a.put dst (.slice (subA A l c sz) (h - l) (c - l))) w) : wpT P ops Q S ((i, 1) :: p) a w :=
  t_pure ho hw (fun w => ex_subLH hx hlo hhi ht hi hl hc) k
/-- Bytes that are read, as a text. -/
theorem sl_textS {src u e : TypeId} {x : Tmp} {A : Option Addr} {c : Nat} {n : Nat} {xs : List Int} (hs : P.underlying src = some (.slice e)) (he : P.underlying e = some (.int .u8)) (hd : P.underlying u = some .string)
    (hx : a.tmps.toList[x]? = some (.slice A n c)) (hr : Reads w A (xs.map (Value.int .u8))) (hn : xs.length = n)
    (k : wpList P ops Q rest (a.put dst (.string (strOfNums xs))) w) : wpList P ops Q (⟨dst, .convert src u (.tmp x), ty, pos, after, none⟩ :: rest) a w := by
  subst hn
  exact Kd.event_run rfl (run_textR hx (run_text hs he hd hr)) k
theorem ow_make0 (HM : Mod B w0 H w) {t e : TypeId} {x y : Operand} {n : Nat} {z : Value} (he : P.underlying t = some (.slice e)) (hz : (P.info? e).map (fun i => (i.zero.map (·.cells), i.size, i.bytes)) = some (some #[z], 1, 1)) (hx : Ev a x (.int .i64 n)) (hy : Ev a y (.int .i64 n)) (hn : n ≤ 1000000)
    (k : ∀ g w', Mod B w0 (cells g (List.replicate n z) e :: H) w' → K (a.put dst (.slice (some ⟨g, 0, none⟩) n n)) w') : Oper.wp P ⟨dst, .makeSlice t x y, ty, pos, after, gd⟩ a w K Q :=
  ow_make HM he hz hx hy hn k
end
end Go.Proofs.Ytghfoooldcbdnaa.SL
