/-
  MORE OF WHAT A CALL IS HANDED, SEEN AS LISTS: bytes, batches, answers of the laws of layer 14.
-/
import Derived.Test.YtghfoooldcbdnaaScript
set_option linter.unusedVariables false
set_option linter.unusedSimpArgs false
namespace Go.Proofs.Ytghfoooldcbdnaa
open Go.RowKit Go.Deep Go.Proofs.Ytghfoooldcbdnaa.SL

section
variable {Hh : Type} {enc : TypeId × Value → Hh} {P : Program} {W : World} {t e : TypeId} {cs : List Value}
/-- A slice, element by element. -/
theorem Tr.listc {α : Type} {el : α → List Value} {Q : α → Prop} {sz bytes : Nat} (hu : P.underlying t = some (.slice e)) (hsz : P.cellsOf e = sz) (hel : ∀ x, (el x).length = sz) (hby : P.bytesOf e = bytes)
    (dec : ∀ ecs, Tr enc P W e ecs → ∃ x, ecs = el x ∧ Q x) (h : Tr enc P W t cs) :
    ∃ (A : Option Addr) (l : List α) (c : Nat), cs = [.slice A l.length c] ∧ Reads W A (l.flatMap el) ∧ (∀ x ∈ l, Q x) ∧ l.length * bytes ≤ reachBytes ∧ l.length ≤ maxLen ∧ l.length ≤ c := by
  obtain ⟨fuel, d, p, h, hw⟩ := h
  rcases open_slice hu h with ⟨rfl, hx⟩ | ⟨a, len, cap, m, n, D, Pl, rfl, _, hlc, hcm, hm, hx, hop⟩
  · exact ⟨none, [], 0, rfl, Reads.nil _ _, by simp, by simp, by simp, by simp⟩
  · rw [if_pos rfl] at hm
    subst hm
    obtain ⟨rfl, rfl⟩ := Prod.mk.inj hx
    simp only [DataW.weights, hu, List.mem_cons, List.mem_append, List.length_map, List.length_range] at hw
    have hwt := hw _ (.inl rfl)
    have hchoose : ∀ i, ∃ x : Option α, i < len → ∃ y, x = some y ∧ Q y ∧ W.cells? 0 (a.add (i * P.cellsOf e)) (P.cellsOf e) = some (el y) := by
      intro i
      by_cases hi : i < len
      · obtain ⟨ecs, h1, h2⟩ := hop i (by omega)
        obtain ⟨x, rfl, hq⟩ := dec ecs ⟨_, _, _, h2, fun k hk => hw k (.inr (.inl (weights_all (by rw [List.mem_map]; exact ⟨i, by simpa using hi, rfl⟩) k hk)))⟩
        exact ⟨some x, fun _ => ⟨x, rfl, hq, h1⟩⟩
      · exact ⟨none, fun h => absurd h hi⟩
    have hl : ∀ k, k ≤ len → ∃ l : List α, l.length = k ∧ (∀ x ∈ l, Q x) ∧ ∀ i x, l[i]? = some x → W.cells? 0 (a.add (i * P.cellsOf e)) (P.cellsOf e) = some (el x) := by
      intro k
      induction k with
      | zero => exact fun _ => ⟨[], rfl, by simp, by simp⟩
      | succ k ih =>
        intro hk
        obtain ⟨l, h1, h2, h3⟩ := ih (by omega)
        obtain ⟨x, hx⟩ := hchoose k
        obtain ⟨y, rfl, hq, hc⟩ := hx (by omega)
        refine ⟨l ++ [y], by simp [h1], ?_, ?_⟩
        · intro z hz
          rcases List.mem_append.1 hz with hz | hz
          · exact h2 z hz
          · have : z = y := by simpa using hz
            exact this ▸ hq
        · intro i z hz
          by_cases hi : i < l.length
          · rw [List.getElem?_append_left hi] at hz
            exact h3 i z hz
          · rw [List.getElem?_append_right (by omega)] at hz
            have hi0 : i - l.length = 0 := by
              cases hd : i - l.length with
              | zero => rfl
              | succ q => rw [hd] at hz; simp at hz
            rw [hi0] at hz
            have : z = y := by simpa using hz.symm
            subst this
            have : i = k := by omega
            rw [this]
            exact hc
    obtain ⟨l, h1, h2, h3⟩ := hl len (Nat.le_refl _)
    refine ⟨some a, l, m, by rw [h1], ?_, h2, ?_, by rw [h1]; omega, by rw [h1]; omega⟩
    · intro j u hu
      obtain ⟨i, r, x, k1, k2, k3, k4⟩ := at_of_flat hel l j u hu
      refine ⟨a, rfl, ?_⟩
      have k5 := (World.cells?_some (h3 i x k1)).2.2 r (by rw [hsz]; exact k3)
      rw [k4, add_add'] at k5
      rw [k2, ← hsz]
      exact k5
    · rw [h1]
      refine Nat.le_trans ?_ hwt
      rw [hby]
      exact Nat.mul_le_mul_right _ (by omega)
end
theorem flat_bytes (l : List Int) : l.flatMap (fun b => [Value.int .u8 b]) = bytes l := by induction l <;> simp_all
set_option maxRecDepth 100000 in
theorem bytes_seen {Hh : Type} {enc : TypeId × Value → Hh} {W : World} {cs : List Value} (h : Tr enc Try.prog W 73 cs) : ∃ (A : Option Addr) (l : List Int) (c : Nat), cs = [.slice A l.length c] ∧ Reads W A (bytes l) ∧ (∀ x ∈ l, 0 ≤ x ∧ x < 256) ∧ l.length ≤ 140737488355328 ∧ l.length ≤ c := by
  obtain ⟨A, l, c, e1, ht, hq, hl, hm, hc⟩ := h.listc (el := fun b => [Value.int .u8 b]) (Q := fun b => 0 ≤ b ∧ b < 256) (sz := 1) (bytes := 1) Try.underlying73 (by kernel_rfl) (fun _ => rfl) (by kernel_rfl) (fun _ h => by
    obtain ⟨b, rfl, hw⟩ := h.int Try.underlying5
    simp only [Lit.wf, Bool.and_eq_true, decide_eq_true_eq] at hw
    have h1 : IntKind.u8.min = 0 := by decide
    have h2 : IntKind.u8.max = 255 := by decide
    rw [h1, h2] at hw
    exact ⟨b, rfl, by omega, by omega⟩)
  rw [flat_bytes] at ht
  exact ⟨A, l, c, e1, ht, hq, Nat.le_trans (by omega) (Nat.le_trans hl (by decide)), hc⟩
set_option maxRecDepth 100000 in
theorem recs_seen {Hh : Type} {enc : TypeId × Value → Hh} {W : World} {cs : List Value} (h : Tr enc Try.prog W 30 cs) : ∃ (A : Option Addr) (l : List Rec) (c : Nat), cs = [.slice A l.length c] ∧ Reads W A (recs l) ∧ Fits l ∧ l.length * 80 ≤ 140737488355328 ∧ l.length ≤ c := by
  obtain ⟨A, l, c, e2, hr, hq, hlen, _, hc⟩ := h.listc (el := Rec.cells) (Q := RecQ) (sz := 8) (bytes := 80) Try.underlying30 (by kernel_rfl) rec_len (by kernel_rfl) (fun _ => rec_seen)
  exact ⟨A, l, c, e2, hr, fun r hr => ⟨Nat.le_trans (hq r hr).1 (by decide), Nat.le_trans (hq r hr).2 (by decide)⟩, Nat.le_trans hlen (by decide), hc⟩

set_option maxRecDepth 100000 in
theorem batch14_seen {Hh : Type} {enc : TypeId × Value → Hh} {W : World} {cs : List Value} (h : Tr enc Try.prog W 32 cs) : ∃ (s n : Int) (l : List Rec) (A : Option Addr) (c : Nat), cs = [.int .i64 s, .int .i64 n, .slice A l.length c] ∧ Reads W A (recs l) ∧ Fits l ∧ l.length * 80 ≤ 140737488355328 := by
  have hl := (h.struct Try.underlying32).1
  have c32 : Try.prog.cellsOf 32 = 3 := by kernel_rfl
  rw [c32] at hl
  match cs, hl with
  | [a0, a1, a2], _ =>
    obtain ⟨s, n, l, A, c, e, h1, h2, h3⟩ := batch_seen h
    exact ⟨s, n, l, A, c, e, h1, h2, h3⟩

set_option maxRecDepth 100000 in
theorem answer_seen {Hh : Type} {enc : TypeId × Value → Hh} {W : World} {cs : List Value} (h : Tr enc Try.prog W 38 cs) : ∃ (s n : Int) (g : Bool) (f : Int), cs = [.int .i64 s, .int .i64 n, .bool g, .int .u64 f] ∧ 0 ≤ f ∧ f ≤ 18446744073709551615 := by
  obtain ⟨hl, h⟩ := h.struct Try.underlying38
  have c38 : Try.prog.cellsOf 38 = 4 := by kernel_rfl
  rw [c38] at hl
  match cs, hl with
  | [a0, a1, a2, a3], _ =>
    have h0 : Tr enc Try.prog W 3 [a0] := Tr.field h 0 rfl (n := 1) (by kernel_rfl)
    have h1 : Tr enc Try.prog W 3 [a1] := Tr.field h 1 rfl (n := 1) (by kernel_rfl)
    have h2 : Tr enc Try.prog W 4 [a2] := Tr.field h 2 rfl (n := 1) (by kernel_rfl)
    have h3 : Tr enc Try.prog W 36 [a3] := Tr.field h 3 rfl (n := 1) (by kernel_rfl)
    obtain ⟨s, e0, _⟩ := h0.int Try.underlying3
    obtain ⟨n, e1, _⟩ := h1.int Try.underlying3
    obtain ⟨g, e2⟩ := h2.bool Try.underlying4
    obtain ⟨f, e3, hw⟩ := h3.int Try.underlying36
    simp only [List.cons.injEq, and_true] at e0 e1 e2 e3
    subst e0 e1 e2 e3
    simp only [Lit.wf, Bool.and_eq_true, decide_eq_true_eq] at hw
    have h1 : IntKind.u64.min = 0 := by decide
    have h2 : IntKind.u64.max = 18446744073709551615 := by decide
    rw [h1, h2] at hw
    exact ⟨s, n, g, f, rfl, by omega, by omega⟩
end Go.Proofs.Ytghfoooldcbdnaa
