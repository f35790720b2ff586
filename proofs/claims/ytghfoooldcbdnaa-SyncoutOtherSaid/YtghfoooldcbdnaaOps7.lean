/-
  SLICES WITH THREE BOUNDS; append in place, clear: a block of one's own written over.
-/
import Derived.Test.YtghfoooldcbdnaaOps6
set_option linter.unusedVariables false
set_option linter.unusedSimpArgs false
namespace Go.Proofs.Ytghfoooldcbdnaa.SL
open Go.RowKit Go.Proofs.YtghfoooldcbdnaaW.PrintWords
section
variable {P : Program} {ops : Array Oper} {rest : List Oper} {a : Act} {Q : Exit → Act → World → Prop} {B : Nat} {w0 w : World} {H H' R HS : List As}
variable {dst : Option Tmp} {ty : TypeId} {pos : String} {after : Array Edge} {gd : Option (Nat × Bool)} {K : Act → World → Prop} {S : World → Prop} {i : Nat} {p : List (Nat × Nat)}
variable {t e : TypeId} {sz n c l h m : Nat} {A : Option Addr} {x lo up mx : Operand} {kl kh km : IntKind}
theorem run_subLHM (ht : P.underlying t = some (.slice e)) (hi : (P.info? e).map (·.size) = some sz) (hl : l ≤ h) (hm : h ≤ m) (hc : m ≤ c) :
    (Instr.slice t (.slice A n c) (some (.int kl l)) (some (.int kh h)) (some (.int km m))).run P w = .ok (.slice (subA A l m sz) (h - l) (m - l)) w := by
  have hs := run_sizeOf (w := w) hi
  have hb := run_sliceBound (P := P) (w := w) km (m : Int) c .slice3Acap (by omega) (by omega)
  have hb1 := run_sliceBound (P := P) (w := w) kh (h : Int) m .slice3B (by omega) (by omega)
  have hb2 := run_sliceBound (P := P) (w := w) kl (l : Int) h .slice3C (by omega) (by omega)
  simp [Instr.slice, run_underlying ht, Instr.sliceBounds, hb, hb1, hb2, hs, subA]
theorem run_subHM (ht : P.underlying t = some (.slice e)) (hi : (P.info? e).map (·.size) = some sz) (hm : h ≤ m) (hc : m ≤ c) (hm0 : 0 < m) :
    (Instr.slice t (.slice A n c) none (some (.int kh h)) (some (.int km m))).run P w = .ok (.slice A h m) w := by
  have hs := run_sizeOf (w := w) hi
  have hb := run_sliceBound (P := P) (w := w) km (m : Int) c .slice3Acap (by omega) (by omega)
  have hb1 := run_sliceBound (P := P) (w := w) kh (h : Int) m .slice3B (by omega) (by omega)
  have e0 : ∀ ad : Addr, ad.add 0 = ad := fun ad => by unfold Addr.add; simp
  have e1 : A.map (fun ad => ad.add 0) = A := by cases A <;> simp [e0]
  have hm1 : ¬ m = 0 := by omega
  simp [Instr.slice, run_underlying ht, Instr.sliceBounds, hb, hb1, hs, hm1, e1]
theorem ex_subLHM (hx : Ev a x (.slice A n c)) (hlo : Ev a lo (.int kl l)) (hhi : Ev a up (.int kh h)) (hmx : Ev a mx (.int km m)) (ht : P.underlying t = some (.slice e)) (hi : (P.info? e).map (·.size) = some sz) (hl : l ≤ h) (hm : h ≤ m) (hc : m ≤ c) :
    (execOp a.eval ⟨dst, .slice t x (some lo) (some up) (some mx), ty, pos, after, gd⟩).run P w = .ok (.value (.slice (subA A l m sz) (h - l) (m - l))) w := by
  simp only [execOp, hx.eq, hlo.eq, hhi.eq, hmx.eq, Option.map_some, Sem.run_bind, run_sliceAt_slice (h := elem_of ht), run_subLHM ht hi hl hm hc, Result.andThen_ok, Sem.run_pure]
theorem ex_subHM (hx : Ev a x (.slice A n c)) (hhi : Ev a up (.int kh h)) (hmx : Ev a mx (.int km m)) (ht : P.underlying t = some (.slice e)) (hi : (P.info? e).map (·.size) = some sz) (hm : h ≤ m) (hc : m ≤ c) (hm0 : 0 < m) :
    (execOp a.eval ⟨dst, .slice t x none (some up) (some mx), ty, pos, after, gd⟩).run P w = .ok (.value (.slice A h m)) w := by
  simp only [execOp, hx.eq, hhi.eq, hmx.eq, Option.map_some, Option.map_none, Sem.run_bind, run_sliceAt_slice (h := elem_of ht), run_subHM ht hi hm hc hm0, Result.andThen_ok, Sem.run_pure]
theorem sl_subLHM (l h m : Nat) (hx : Ev a x (.slice A n c)) (hlo : Ev a lo (.int kl l)) (hhi : Ev a up (.int kh h)) (hmx : Ev a mx (.int km m)) (ht : P.underlying t = some (.slice e)) (hi : (P.info? e).map (·.size) = some sz) (hl : l ≤ h) (hm : h ≤ m) (hc : m ≤ c)
    (k : wpList P ops Q rest (a.put dst (.slice (subA A l m sz) (h - l) (m - l))) w) : wpList P ops Q (⟨dst, .slice t x (some lo) (some up) (some mx), ty, pos, after, none⟩ :: rest) a w :=
  Kd.event_run rfl (ex_subLHM hx hlo hhi hmx ht hi hl hm hc) k
theorem t_subH (h : Nat) (ho : ops.toList[i]? = some ⟨dst, .slice t x none (some up) none, ty, pos, after, gd⟩) (hw : Region.wanted ⟨dst, .slice t x none (some up) none, ty, pos, after, gd⟩ (yielded ops a.tmps) = true)
    (hx : Ev a x (.slice A n c)) (hhi : Ev a up (.int kh h)) (ht : P.underlying t = some (.slice e)) (hi : (P.info? e).map (·.size) = some sz) (hl : h ≤ c)
    (k : wpT P ops Q S p (a.put dst (.slice A h c)) w) : wpT P ops Q S ((i, 1) :: p) a w :=
  t_pure ho hw (fun w => ex_subH hx hhi ht hi hl) k
theorem t_subHM (h m : Nat) (ho : ops.toList[i]? = some ⟨dst, .slice t x none (some up) (some mx), ty, pos, after, gd⟩) (hw : Region.wanted ⟨dst, .slice t x none (some up) (some mx), ty, pos, after, gd⟩ (yielded ops a.tmps) = true)
    (hx : Ev a x (.slice A n c)) (hhi : Ev a up (.int kh h)) (hmx : Ev a mx (.int km m)) (ht : P.underlying t = some (.slice e)) (hi : (P.info? e).map (·.size) = some sz) (hm : h ≤ m) (hc : m ≤ c) (hm0 : 0 < m)
    (k : wpT P ops Q S p (a.put dst (.slice A h m)) w) : wpT P ops Q S ((i, 1) :: p) a w :=
  t_pure ho hw (fun w => ex_subHM hx hhi hmx ht hi hm hc hm0) k
/-- Anything that leaves one's own block written over. -/
theorem ow_setrow (HM : Mod B w0 H w) {o : Oper} {g : Nat} {cs cs' : List Value} {tb : TypeId} {v : Value} (hh : Has H g (.cells cs.toArray tb (0, 0)))
    (hrun : w.heap[g]? = some (.cells cs.toArray tb (0, 0)) → (execOp a.eval o).run P w = .ok (.value v) (w.setRow g cs'.toArray)) (hu : Upd H g (.cells cs'.toArray tb (0, 0)) H')
    (k : ∀ w', Mod B w0 H' w' → K (a.put o.dst v) w') : Oper.wp P o a w K Q := by
  have hg := HM.has g (hh := hh)
  unfold Oper.wp
  rw [hrun hg]
  refine k _ ?_
  refine HM.upd g (.cells cs'.toArray tb (0, 0)) rfl rfl rfl (by simp [World.setRow]) (fun b hb => ?_) (setRow_heap w g _ _ _ _ hg)
  simp [World.setRow, Array.getElem?_modify, Ne.symm hb]
/-- append in place: there is room. -/
theorem run_append_in {g c n m c2 : Nat} {A : Option Addr} {cs news : List Value} {tb : TypeId} (ht : P.underlying t = some (.slice e)) (hi : (P.info? e).map (·.size) = some sz) (hsz : 0 < sz) (hg : w.heap[g]? = some (.cells cs.toArray tb (0, 0)))
    (hr : Reads w A news) (hl : news.length = m * sz) (h1 : Ones news) (hroom : n + m ≤ c) (hc : cs.length = c * sz) :
    (Builtin.append_ #[t, t] ty #[.slice (some ⟨g, 0, none⟩) n c, .slice A m c2]).run P w = .ok (.slice (some ⟨g, 0, none⟩) (n + m) c) (w.setRow g (cs.take (n * sz) ++ news ++ cs.drop (n * sz + news.length)).toArray) := by
  obtain ⟨i0, hi0, hs0⟩ := Option.map_eq_some_iff.1 hi
  have hle : (n + m) * sz ≤ c * sz := Nat.mul_le_mul_right _ hroom
  rw [Nat.add_mul] at hle
  have hst := run_storeCells_at (P := P) g (n * sz) tb news 0 cs.toArray w hg (by simp; omega) h1.all
  simp only [Nat.add_zero] at hst
  have e0 : ∀ k, (⟨g, 0, none⟩ : Addr).add k = ⟨g, k, none⟩ := fun k => by unfold Addr.add; simp [eq_comm]
  cases A with
  | some ad =>
    have hfc := run_firstCells_some (P := P) w sz m ad m c2 news hl hr.at
    simp [Builtin.append_, run_underlying ht, sizeOf, typeInfo, hi0, hs0, Builtin.lenOf, hroom, hfc, e0, hst]
  | none =>
    have hn : news = [] := by
      cases news with
      | nil => rfl
      | cons y ys =>
        obtain ⟨ad, h, _⟩ := hr 0 _ rfl
        cases h
    subst hn
    have hm : m = 0 := by
      rcases Nat.mul_eq_zero.1 (show m * sz = 0 by simpa using hl.symm) with h2 | h2
      · exact h2
      · omega
    subst hm
    have hse := setRow_self w g cs.toArray tb (0, 0) hg
    have e1 : (cs.take (n * sz) ++ [] ++ cs.drop (n * sz + ([] : List Value).length)).toArray = cs.toArray := by simp
    rw [e1, hse]
    simp [Builtin.append_, run_underlying ht, sizeOf, typeInfo, hi0, hs0, Builtin.lenOf, hroom, Builtin.firstCells, storeCells]
    omega
theorem ow_append_in (HM : Mod B w0 H w) {s x : Operand} {g c n m c2 : Nat} (q : Nat) {A : Option Addr} {cs news : List Value} {tb : TypeId} (hs : Ev a s (.slice (some ⟨g, 0, none⟩) n c)) (hx : Ev a x (.slice A m c2)) (hh : Has H g (.cells cs.toArray tb (0, 0)))
    (ht : P.underlying t = some (.slice e)) (hi : (P.info? e).map (·.size) = some sz) (hsz : 0 < sz) (hr : Reads w A news) (hl : news.length = m * sz) (h1 : Ones news) (hroom : n + m ≤ c) (hc : cs.length = c * sz) (hq : n + m = q)
    (hu : Upd H g (.cells (cs.take (n * sz) ++ news ++ cs.drop (n * sz + news.length)).toArray tb (0, 0)) H')
    (k : ∀ w', Mod B w0 H' w' → K (a.put dst (.slice (some ⟨g, 0, none⟩) q c)) w') :
    Oper.wp P ⟨dst, .call { callee := .builtin .append, args := #[s, x], argTypes := #[t, t] }, ty, pos, after, gd⟩ a w K Q := by
  subst hq
  refine ow_setrow HM hh (fun hg => ?_) hu k
  have hrun := run_append_in (ty := ty) (c2 := c2) ht hi hsz hg hr hl h1 hroom hc
  unfold execOp
  simp only [resolve, invoke, builtin, Sem.run_bind, Sem.run_pure, Result.andThen_ok, List.map_toArray, List.map_cons, List.map_nil, hs.eq, hx.eq, hrun]
/-- clear of one's own row's piece. -/
theorem zeros_one (zs : List Value) : List.map (fun i => zs[i % zs.length]?.getD default) (List.range zs.length) = zs := by
  apply List.ext_getElem?
  intro i
  rw [List.getElem?_map]
  by_cases h : i < zs.length
  · rw [List.getElem?_range h, Option.map_some, Nat.mod_eq_of_lt h, List.getElem?_eq_getElem h]
    rfl
  · rw [List.getElem?_eq_none (by simpa using h), List.getElem?_eq_none (by omega)]
    rfl
theorem run_clear_in {g off c2 : Nat} {cs zs : List Value} {tb : TypeId} (ht : P.underlying t = some (.slice e)) (hz : ((P.info? e).bind (·.zero)).map (·.cells) = some zs.toArray) (h1 : Ones zs) (hg : w.heap[g]? = some (.cells cs.toArray tb (0, 0)))
    (hc : off + zs.length ≤ cs.length) :
    (Builtin.clear_ #[t] ty #[.slice (some ⟨g, off, none⟩) 1 c2]).run P w = .ok (.tuple #[]) (w.setRow g (cs.take off ++ zs ++ cs.drop (off + zs.length)).toArray) := by
  obtain ⟨v, hv, hvc⟩ := Option.map_eq_some_iff.1 hz
  obtain ⟨i0, hi0, hiz⟩ := Option.bind_eq_some_iff.1 hv
  have hst := run_storeCells_at (P := P) g off tb zs 0 cs.toArray w hg (by simpa using hc) h1.all
  simp only [Nat.add_zero] at hst
  have e1 : (Builtin.zeroCells v.cells 1).toList = zs := by rw [hvc]; simp [Builtin.zeroCells]; exact zeros_one zs
  simp [Builtin.clear_, run_underlying ht, zeroValue, typeInfo, hi0, hiz, e1, hst]
theorem ow_clear_in (HM : Mod B w0 H w) {x : Operand} {g c2 m : Nat} (off : Nat) {A : Option Addr} {cs zs : List Value} {tb : TypeId} (hx : Ev a x (.slice A m c2)) (hA : A = some ⟨g, off, none⟩) (hm : m = 1) (hh : Has H g (.cells cs.toArray tb (0, 0)))
    (ht : P.underlying t = some (.slice e)) (hz : ((P.info? e).bind (·.zero)).map (·.cells) = some zs.toArray) (h1 : Ones zs) (hc : off + zs.length ≤ cs.length)
    (hu : Upd H g (.cells (cs.take off ++ zs ++ cs.drop (off + zs.length)).toArray tb (0, 0)) H')
    (k : ∀ w', Mod B w0 H' w' → K (a.put dst (.tuple #[])) w') :
    Oper.wp P ⟨dst, .call { callee := .builtin .clear, args := #[x], argTypes := #[t] }, ty, pos, after, gd⟩ a w K Q := by
  subst hA hm
  refine ow_setrow HM hh (fun hg => ?_) hu k
  have hrun := run_clear_in (ty := ty) (c2 := c2) ht hz h1 hg hc
  unfold execOp
  simp only [resolve, invoke, builtin, Sem.run_bind, Sem.run_pure, Result.andThen_ok, List.map_toArray, List.map_cons, List.map_nil, hx.eq, hrun]
theorem sl_clear_in (HM : Mod B w0 H w) {x : Operand} {g c2 m : Nat} (off : Nat) {A : Option Addr} {cs zs : List Value} {tb : TypeId} (hx : Ev a x (.slice A m c2)) (hA : A = some ⟨g, off, none⟩) (hm : m = 1) (hh : Has H g (.cells cs.toArray tb (0, 0)))
    (ht : P.underlying t = some (.slice e)) (hz : ((P.info? e).bind (·.zero)).map (·.cells) = some zs.toArray) (h1 : Ones zs) (hc : off + zs.length ≤ cs.length)
    (hu : Upd H g (.cells (cs.take off ++ zs ++ cs.drop (off + zs.length)).toArray tb (0, 0)) H')
    (k : ∀ w', Mod B w0 H' w' → wpList P ops Q rest (a.put dst (.tuple #[])) w') :
    wpList P ops Q (⟨dst, .call { callee := .builtin .clear, args := #[x], argTypes := #[t] }, ty, pos, after, none⟩ :: rest) a w :=
  wpList_plain rfl fun _ hK => ow_clear_in HM off hx hA hm hh ht hz h1 hc hu fun w' h => hK _ _ (k w' h)
end
end Go.Proofs.Ytghfoooldcbdnaa.SL
