/-
  BYTES THAT A CALL IS HANDED, with the form's own bound.
-/
import Derived.Test.YtghfoooldcbdnaaSeen2
set_option linter.unusedVariables false
set_option linter.unusedSimpArgs false
namespace Go.Proofs.Ytghfoooldcbdnaa
open Go.RowKit Go.Deep Go.Proofs.Ytghfoooldcbdnaa.SL
set_option maxRecDepth 100000 in
theorem bytes_seenS {Hh : Type} {enc : TypeId × Value → Hh} {W : World} {cs : List Value} (h : Tr enc Try.prog W 73 cs) : ∃ (A : Option Addr) (l : List Int) (c : Nat), cs = [.slice A l.length c] ∧ Reads W A (bytes l) ∧ (∀ x ∈ l, 0 ≤ x ∧ x < 256) ∧ l.length ≤ 140737488351232 ∧ l.length ≤ c := by
  obtain ⟨A, l, c, e1, ht, hq, hl, hm, hc⟩ := h.listc (el := fun b => [Value.int .u8 b]) (Q := fun b => 0 ≤ b ∧ b < 256) (sz := 1) (bytes := 1) Try.underlying73 (by kernel_rfl) (fun _ => rfl) (by kernel_rfl) (fun _ h => by
    obtain ⟨b, rfl, hw⟩ := h.int Try.underlying5
    simp only [Lit.wf, Bool.and_eq_true, decide_eq_true_eq] at hw
    have h1 : IntKind.u8.min = 0 := by decide
    have h2 : IntKind.u8.max = 255 := by decide
    rw [h1, h2] at hw
    exact ⟨b, rfl, by omega, by omega⟩)
  rw [flat_bytes] at ht
  exact ⟨A, l, c, e1, ht, hq, Nat.le_trans (by omega) (Nat.le_trans hl (by decide)), hc⟩
end Go.Proofs.Ytghfoooldcbdnaa
