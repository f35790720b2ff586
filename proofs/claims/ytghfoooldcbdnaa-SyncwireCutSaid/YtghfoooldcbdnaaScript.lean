/-
  A SCRIPT OF BATCHES, SEEN: records, batches, what is told.
-/
import Derived.Test.YtghfoooldcbdnaaSeen
import Derived.Test.YtghfoooldcbdnaaTold
set_option linter.unusedVariables false
set_option linter.unusedSimpArgs false
namespace Go.Proofs.Ytghfoooldcbdnaa
open Go.RowKit Go.Deep Go.Proofs.Ytghfoooldcbdnaa.SL

section
variable {Hh : Type} {enc : TypeId × Value → Hh} {W : World} {cs : List Value}
theorem flow_seen {a0 a1 a2 a3 a4 : Value} (h : Tr enc Try.prog W 51 [a0, a1, a2, a3, a4]) : ∃ (p : Int) (f t : ByteArray) (o d : Int), [a0, a1, a2, a3, a4] = [.int .i64 p, .string f, .string t, .int .i64 o, .int .i64 d] ∧ f.size ≤ reachBytes ∧ t.size ≤ reachBytes := by
  obtain ⟨_, h⟩ := h.struct Try.underlying51
  have c3 : Try.prog.cellsOf 3 = 1 := by kernel_rfl
  have c49 : Try.prog.cellsOf 49 = 1 := by kernel_rfl
  have h0 : Tr enc Try.prog W 3 [a0] := Tr.field h 0 rfl (n := 1) (by kernel_rfl)
  have h1 : Tr enc Try.prog W 49 [a1] := Tr.field h 1 rfl (n := 1) (by kernel_rfl)
  have h2 : Tr enc Try.prog W 49 [a2] := Tr.field h 2 rfl (n := 1) (by kernel_rfl)
  have h3 : Tr enc Try.prog W 3 [a3] := Tr.field h 3 rfl (n := 1) (by kernel_rfl)
  have h4 : Tr enc Try.prog W 3 [a4] := Tr.field h 4 rfl (n := 1) (by kernel_rfl)
  obtain ⟨p, e0, _⟩ := h0.int Try.underlying3
  obtain ⟨f, e1, q1⟩ := h1.string Try.underlying49
  obtain ⟨t, e2, q2⟩ := h2.string Try.underlying49
  obtain ⟨o, e3, _⟩ := h3.int Try.underlying3
  obtain ⟨d, e4, _⟩ := h4.int Try.underlying3
  simp only [List.cons.injEq, and_true] at e0 e1 e2 e3 e4
  subst e0 e1 e2 e3 e4
  exact ⟨p, f, t, o, d, rfl, q1, q2⟩
def RecQ (r : Rec) : Prop := r.fr.size ≤ reachBytes ∧ r.tt.size ≤ reachBytes
theorem len8 (h : cs.length = 8) : ∃ a0 a1 a2 a3 a4 a5 a6 a7, cs = [a0, a1, a2, a3, a4, a5, a6, a7] := by
  match cs, h with
  | [a0, a1, a2, a3, a4, a5, a6, a7], _ => exact ⟨_, _, _, _, _, _, _, _, rfl⟩
theorem rec_seen (h : Tr enc Try.prog W 54 cs) : ∃ r : Rec, cs = r.cells ∧ RecQ r := by
  obtain ⟨hl, h⟩ := h.struct Try.underlying54
  have c54 : Try.prog.cellsOf 54 = 8 := by kernel_rfl
  have c51 : Try.prog.cellsOf 51 = 5 := by kernel_rfl
  have c3 : Try.prog.cellsOf 3 = 1 := by kernel_rfl
  rw [c54] at hl
  obtain ⟨a0, a1, a2, a3, a4, a5, a6, a7, rfl⟩ := len8 hl
  have h0 : Tr enc Try.prog W 51 [a0, a1, a2, a3, a4] := Tr.field h 0 rfl (n := 5) (by kernel_rfl)
  have h1 : Tr enc Try.prog W 3 [a5] := Tr.field h 1 rfl (n := 1) (by kernel_rfl)
  have h2 : Tr enc Try.prog W 3 [a6] := Tr.field h 2 rfl (n := 1) (by kernel_rfl)
  have h3 : Tr enc Try.prog W 3 [a7] := Tr.field h 3 rfl (n := 1) (by kernel_rfl)
  obtain ⟨p, f, t, o, d, e0, q⟩ := flow_seen h0
  obtain ⟨b, e1, _⟩ := h1.int Try.underlying3
  obtain ⟨s, e2, _⟩ := h2.int Try.underlying3
  obtain ⟨l, e3, _⟩ := h3.int Try.underlying3
  simp only [List.cons.injEq, and_true] at e0 e1 e2 e3
  obtain ⟨rfl, rfl, rfl, rfl, rfl⟩ := e0
  subst e1 e2 e3
  exact ⟨⟨p, f, t, o, d, b, s, l⟩, rfl, q⟩

/-- What is told: a batch, and which of its records are taken; and where they lie. -/
structure OpD where
  (s n : Int) (l : List Rec) (tk : List Bool) (A T : Option Addr) (c ct : Nat)
abbrev OpD.cells (o : OpD) : List Value := [.int .i64 o.s, .int .i64 o.n, .slice o.A o.l.length o.c, .slice o.T o.tk.length o.ct]
structure OpD.Ok (W : World) (o : OpD) : Prop where
  rd : Reads W o.A (recs o.l)
  rt : Reads W o.T (bools o.tk)
  fits : Fits o.l
  len : o.l.length * 80 ≤ 140737488355328
  lent : o.tk.length ≤ maxLen
theorem flat_bool (l : List Bool) : l.flatMap (fun b => [Value.bool b]) = bools l := by induction l <;> simp_all
set_option maxRecDepth 100000 in
theorem batch_seen {a0 a1 a2 : Value} (h : Tr enc Try.prog W 32 [a0, a1, a2]) : ∃ (s n : Int) (l : List Rec) (A : Option Addr) (c : Nat), [a0, a1, a2] = [.int .i64 s, .int .i64 n, .slice A l.length c] ∧ Reads W A (recs l) ∧ Fits l ∧ l.length * 80 ≤ 140737488355328 := by
  obtain ⟨_, h⟩ := h.struct Try.underlying32
  have c3 : Try.prog.cellsOf 3 = 1 := by kernel_rfl
  have c30 : Try.prog.cellsOf 30 = 1 := by kernel_rfl
  have h0 : Tr enc Try.prog W 3 [a0] := Tr.field h 0 rfl (n := 1) (by kernel_rfl)
  have h1 : Tr enc Try.prog W 3 [a1] := Tr.field h 1 rfl (n := 1) (by kernel_rfl)
  have h2 : Tr enc Try.prog W 30 [a2] := Tr.field h 2 rfl (n := 1) (by kernel_rfl)
  obtain ⟨s, e0, _⟩ := h0.int Try.underlying3
  obtain ⟨n, e1, _⟩ := h1.int Try.underlying3
  obtain ⟨A, l, c, e2, hr, hq, hlen, _⟩ := h2.list (el := Rec.cells) (Q := RecQ) (sz := 8) (bytes := 80) Try.underlying30 (by kernel_rfl) rec_len (by kernel_rfl) (fun _ => rec_seen)
  simp only [List.cons.injEq, and_true] at e0 e1 e2
  subst e0 e1 e2
  refine ⟨s, n, l, A, c, rfl, hr, fun r hr => ⟨Nat.le_trans (hq r hr).1 (by decide), Nat.le_trans (hq r hr).2 (by decide)⟩, Nat.le_trans hlen (by decide)⟩
set_option maxRecDepth 100000 in
theorem op_seen (h : Tr enc Try.prog W 35 cs) : ∃ o : OpD, cs = o.cells ∧ o.Ok W := by
  obtain ⟨hl, h⟩ := h.struct Try.underlying35
  have c35 : Try.prog.cellsOf 35 = 4 := by kernel_rfl
  have c32 : Try.prog.cellsOf 32 = 3 := by kernel_rfl
  have c33 : Try.prog.cellsOf 33 = 1 := by kernel_rfl
  rw [c35] at hl
  match cs, hl with
  | [a0, a1, a2, a3], _ =>
    have h0 : Tr enc Try.prog W 32 [a0, a1, a2] := Tr.field h 0 rfl (n := 3) (by kernel_rfl)
    have h1 : Tr enc Try.prog W 33 [a3] := Tr.field h 1 rfl (n := 1) (by kernel_rfl)
    obtain ⟨s, n, l, A, c, e0, hr, hf, hlen⟩ := batch_seen h0
    obtain ⟨T, tk, ct, e1, ht, _, _, hm⟩ := h1.list (el := fun b => [Value.bool b]) (Q := fun _ => True) (sz := 1) (bytes := 1) Try.underlying33 (by kernel_rfl) (fun _ => rfl) (by kernel_rfl) (fun _ h => by
      obtain ⟨b, rfl⟩ := h.bool Try.underlying4
      exact ⟨b, rfl, trivial⟩)
    simp only [List.cons.injEq, and_true] at e0 e1
    obtain ⟨rfl, rfl, rfl⟩ := e0
    subst e1
    rw [flat_bool] at ht
    exact ⟨⟨s, n, l, tk, A, T, c, ct⟩, rfl, hr, ht, hf, hlen, hm⟩
theorem op_len (o : OpD) : o.cells.length = 4 := rfl
set_option maxRecDepth 100000 in
theorem script_seen (h : Tr enc Try.prog W 22 cs) : ∃ (A : Option Addr) (l : List OpD) (c : Nat), cs = [.slice A l.length c] ∧ Reads W A (l.flatMap OpD.cells) ∧ (∀ x ∈ l, x.Ok W) ∧ l.length ≤ maxLen := by
  obtain ⟨A, l, c, e2, hr, hq, _, hm⟩ := h.list (el := OpD.cells) (Q := OpD.Ok W) (sz := 4) (bytes := 64) Try.underlying22 (by kernel_rfl) op_len (by kernel_rfl) (fun _ => op_seen)
  exact ⟨A, l, c, e2, hr, hq, hm⟩
end
end Go.Proofs.Ytghfoooldcbdnaa
