/-
  WHAT THE LAWS OF LAYER 15 ARE HANDED, SEEN AS A LIST OF OPERATIONS.
-/
import Derived.Test.YtghfoooldcbdnaaSeen
import Derived.Test.YtghfoooldcbdnaaRoom
set_option linter.unusedVariables false
set_option linter.unusedSimpArgs false
namespace Go.Proofs.Ytghfoooldcbdnaa.V
open Go.RowKit Go.Deep Go.Proofs.Ytghfoooldcbdnaa.SL

section
variable {Hh : Type} {enc : TypeId × Value → Hh} {W : World} {cs : List Value}
theorem flow_seen {a0 a1 a2 a3 a4 : Value} (h : Tr enc Try.prog W 51 [a0, a1, a2, a3, a4]) : ∃ (p : Int) (f t : ByteArray) (o d : Int), [a0, a1, a2, a3, a4] = [.int .i64 p, .string f, .string t, .int .i64 o, .int .i64 d] ∧ f.size ≤ reachBytes ∧ t.size ≤ reachBytes := by
  obtain ⟨_, h⟩ := h.struct Try.underlying51
  have c3 : Try.prog.cellsOf 3 = 1 := by kernel_rfl
  have c49 : Try.prog.cellsOf 49 = 1 := by kernel_rfl
  have h0 : Tr enc Try.prog W 3 [a0] := Tr.field h 0 rfl (n := 1) (by kernel_rfl)
  have h1 : Tr enc Try.prog W 49 [a1] := Tr.field h 1 rfl (n := 1) (by kernel_rfl)
  have h2 : Tr enc Try.prog W 49 [a2] := Tr.field h 2 rfl (n := 1) (by kernel_rfl)
  have h3 : Tr enc Try.prog W 3 [a3] := Tr.field h 3 rfl (n := 1) (by kernel_rfl)
  have h4 : Tr enc Try.prog W 3 [a4] := Tr.field h 4 rfl (n := 1) (by kernel_rfl)
  obtain ⟨p, e0, _⟩ := h0.int Try.underlying3
  obtain ⟨f, e1, q1⟩ := h1.string Try.underlying49
  obtain ⟨t, e2, q2⟩ := h2.string Try.underlying49
  obtain ⟨o, e3, _⟩ := h3.int Try.underlying3
  obtain ⟨d, e4, _⟩ := h4.int Try.underlying3
  simp only [List.cons.injEq, and_true] at e0 e1 e2 e3 e4
  subst e0 e1 e2 e3 e4
  exact ⟨p, f, t, o, d, rfl, q1, q2⟩
def RecQ (r : Rec) : Prop := r.fr.size ≤ reachBytes ∧ r.tt.size ≤ reachBytes
theorem len8 (h : cs.length = 8) : ∃ a0 a1 a2 a3 a4 a5 a6 a7, cs = [a0, a1, a2, a3, a4, a5, a6, a7] := by
  match cs, h with
  | [a0, a1, a2, a3, a4, a5, a6, a7], _ => exact ⟨_, _, _, _, _, _, _, _, rfl⟩
theorem rec_seen (h : Tr enc Try.prog W 54 cs) : ∃ r : Rec, cs = r.cells ∧ RecQ r := by
  obtain ⟨hl, h⟩ := h.struct Try.underlying54
  have c54 : Try.prog.cellsOf 54 = 8 := by kernel_rfl
  have c51 : Try.prog.cellsOf 51 = 5 := by kernel_rfl
  have c3 : Try.prog.cellsOf 3 = 1 := by kernel_rfl
  rw [c54] at hl
  obtain ⟨a0, a1, a2, a3, a4, a5, a6, a7, rfl⟩ := len8 hl
  have h0 : Tr enc Try.prog W 51 [a0, a1, a2, a3, a4] := Tr.field h 0 rfl (n := 5) (by kernel_rfl)
  have h1 : Tr enc Try.prog W 3 [a5] := Tr.field h 1 rfl (n := 1) (by kernel_rfl)
  have h2 : Tr enc Try.prog W 3 [a6] := Tr.field h 2 rfl (n := 1) (by kernel_rfl)
  have h3 : Tr enc Try.prog W 3 [a7] := Tr.field h 3 rfl (n := 1) (by kernel_rfl)
  obtain ⟨p, f, t, o, d, e0, q⟩ := flow_seen h0
  obtain ⟨b, e1, _⟩ := h1.int Try.underlying3
  obtain ⟨s, e2, _⟩ := h2.int Try.underlying3
  obtain ⟨l, e3, _⟩ := h3.int Try.underlying3
  simp only [List.cons.injEq, and_true] at e0 e1 e2 e3
  obtain ⟨rfl, rfl, rfl, rfl, rfl⟩ := e0
  subst e1 e2 e3
  exact ⟨⟨p, f, t, o, d, b, s, l⟩, rfl, q⟩

end
set_option maxRecDepth 100000 in
theorem answer_seen {Hh : Type} {enc : TypeId × Value → Hh} {W : World} {cs : List Value} (h : Tr enc Try.prog W 38 cs) : ∃ (s n : Int) (g : Bool) (f : Int), cs = [.int .i64 s, .int .i64 n, .bool g, .int .u64 f] ∧ 0 ≤ f ∧ f ≤ 18446744073709551615 := by
  obtain ⟨hl, h⟩ := h.struct Try.underlying38
  have c38 : Try.prog.cellsOf 38 = 4 := by kernel_rfl
  rw [c38] at hl
  match cs, hl with
  | [a0, a1, a2, a3], _ =>
    have h0 : Tr enc Try.prog W 3 [a0] := Tr.field h 0 rfl (n := 1) (by kernel_rfl)
    have h1 : Tr enc Try.prog W 3 [a1] := Tr.field h 1 rfl (n := 1) (by kernel_rfl)
    have h2 : Tr enc Try.prog W 4 [a2] := Tr.field h 2 rfl (n := 1) (by kernel_rfl)
    have h3 : Tr enc Try.prog W 36 [a3] := Tr.field h 3 rfl (n := 1) (by kernel_rfl)
    obtain ⟨s, e0, _⟩ := h0.int Try.underlying3
    obtain ⟨n, e1, _⟩ := h1.int Try.underlying3
    obtain ⟨g, e2⟩ := h2.bool Try.underlying4
    obtain ⟨f, e3, hw⟩ := h3.int Try.underlying36
    simp only [List.cons.injEq, and_true] at e0 e1 e2 e3
    subst e0 e1 e2 e3
    simp only [Lit.wf, Bool.and_eq_true, decide_eq_true_eq] at hw
    have h1 : IntKind.u64.min = 0 := by decide
    have h2 : IntKind.u64.max = 18446744073709551615 := by decide
    rw [h1, h2] at hw
    exact ⟨s, n, g, f, rfl, by omega, by omega⟩
end Go.Proofs.Ytghfoooldcbdnaa.V
namespace Go.Proofs.Ytghfoooldcbdnaa
open Go.RowKit Go.Deep Go.Proofs.Ytghfoooldcbdnaa.SL
/-- One operation on a sender. -/
structure OpE where
  (kind now : Int)
  r : Rec
  (as0 an : Int)
  ag : Bool
  af : Int
abbrev OpE.cells (o : OpE) : List Value := [.int .i64 o.kind, .int .i64 o.now] ++ o.r.cells ++ [.int .i64 o.as0, .int .i64 o.an, .bool o.ag, .int .u64 o.af]
theorem ope_len (o : OpE) : o.cells.length = 14 := rfl
def OpE.Ok (o : OpE) : Prop := V.RecQ o.r ∧ 0 ≤ o.af ∧ o.af ≤ 18446744073709551615
set_option maxHeartbeats 1000000 in
set_option maxRecDepth 100000 in
theorem ope_seen {Hh : Type} {enc : TypeId × Value → Hh} {W : World} {cs : List Value} (h : Tr enc Try.prog W 70 cs) : ∃ o : OpE, cs = o.cells ∧ o.Ok := by
  obtain ⟨hl, h⟩ := h.struct Try.underlying70
  have c70 : Try.prog.cellsOf 70 = 14 := by kernel_rfl
  rw [c70] at hl
  match cs, hl with
  | [a0, a1, a2, a3, a4, a5, a6, a7, a8, a9, b0, b1, b2, b3], _ =>
    have h0 : Tr enc Try.prog W 3 [a0] := Tr.field h 0 rfl (n := 1) (by kernel_rfl)
    have h1 : Tr enc Try.prog W 3 [a1] := Tr.field h 1 rfl (n := 1) (by kernel_rfl)
    have h2 : Tr enc Try.prog W 54 [a2, a3, a4, a5, a6, a7, a8, a9] := Tr.field h 2 rfl (n := 8) (by kernel_rfl)
    have h3 : Tr enc Try.prog W 38 [b0, b1, b2, b3] := Tr.field h 3 rfl (n := 4) (by kernel_rfl)
    obtain ⟨x0, e0, _⟩ := h0.int Try.underlying3
    obtain ⟨x1, e1, _⟩ := h1.int Try.underlying3
    obtain ⟨r, e2, hr⟩ := V.rec_seen h2
    obtain ⟨s, n, gg, f, e3, hf0, hf1⟩ := V.answer_seen h3
    simp only [List.cons.injEq, and_true] at e0 e1 e2 e3
    obtain ⟨rfl, rfl, rfl, rfl, rfl, rfl, rfl, rfl⟩ := e2
    obtain ⟨rfl, rfl, rfl, rfl⟩ := e3
    subst e0 e1
    exact ⟨⟨x0, x1, r, s, n, gg, f⟩, rfl, hr, hf0, hf1⟩
set_option maxRecDepth 100000 in
theorem script15_seen {Hh : Type} {enc : TypeId × Value → Hh} {W : World} {cs : List Value} (h : Tr enc Try.prog W 63 cs) : ∃ (A : Option Addr) (l : List OpE) (c : Nat), cs = [.slice A l.length c] ∧ Reads W A (l.flatMap OpE.cells) ∧ (∀ x ∈ l, x.Ok) ∧ l.length ≤ maxLen := by
  obtain ⟨A, l, c, e1, ht, hq, hl, hm⟩ := h.list (el := OpE.cells) (Q := OpE.Ok) (sz := 14) (bytes := 128) Try.underlying63 (by kernel_rfl) ope_len (by kernel_rfl) (fun _ h => ope_seen h)
  exact ⟨A, l, c, e1, ht, hq, hm⟩
end Go.Proofs.Ytghfoooldcbdnaa
