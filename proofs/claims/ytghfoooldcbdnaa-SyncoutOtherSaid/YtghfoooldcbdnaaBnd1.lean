/-
  THE SENDER OF PACKAGE syncout: the numbers that it hands out rise by one.
-/
import Derived.Test.YtghfoooldcbdnaaSnd14
set_option linter.unusedVariables false
set_option linter.unusedSimpArgs false
namespace Go.Proofs.Ytghfoooldcbdnaa
open Go.RowKit Go.Proofs.Ytghfoooldcbdnaa.SL Go.Proofs.YtghfoooldcbdnaaW.PrintWords
/-- The greatest number so far. -/
def mxs (a : Int) (l : List (Int × List Rec)) : Int := l.foldl (fun m b => max m b.1) a
/-- No number is more than one behind the greatest ahead of it; and which is the greatest in the end. -/
structure Rises (a : Int) (l : List (Int × List Rec)) (c : Int) : Prop where
  one : ∀ j b, l[j]? = some b → b.1 ≤ mxs a (l.take j) + 1
  last : mxs a l = c
theorem mxs_snoc (a : Int) (l : List (Int × List Rec)) (b : Int × List Rec) : mxs a (l ++ [b]) = max (mxs a l) b.1 := by simp [mxs]
theorem mxs_succ {a : Int} {l : List (Int × List Rec)} {j : Nat} {b : Int × List Rec} (h : l[j]? = some b) : mxs a (l.take (j + 1)) = max (mxs a (l.take j)) b.1 := by
  rw [List.take_add_one, h]
  exact mxs_snoc a _ b
theorem Rises.snoc {a c : Int} {l : List (Int × List Rec)} (h : Rises a l c) (b : Int × List Rec) (hb : b.1 ≤ c + 1) : Rises a (l ++ [b]) (max c b.1) := by
  refine ⟨fun j x hx => ?_, by rw [mxs_snoc, h.last]⟩
  by_cases hj : j < l.length
  · rw [List.getElem?_append_left hj] at hx
    rw [List.take_append_of_le_length (by omega)]
    exact h.one j x hx
  · have hj2 := (List.getElem?_eq_some_iff.1 hx).1
    rw [List.length_append, List.length_singleton] at hj2
    have e : j = l.length := by omega
    subst e
    rw [List.getElem?_append_right (by omega), Nat.sub_self] at hx
    have e2 : b = x := by simpa using hx
    subst e2
    rw [List.take_left, h.last]
    exact hb
theorem Rises.below {a : Int} : ∀ {l : List (Int × List Rec)}, (∀ b ∈ l, b.1 ≤ a) → Rises a l a := by
  intro l h
  have hm : ∀ m : List (Int × List Rec), (∀ b ∈ m, b.1 ≤ a) → mxs a m = a := by
    intro m
    induction m with
    | nil => intro _; rfl
    | cons b m ih =>
      intro h
      show mxs (max a b.1) m = a
      rw [show max a b.1 = a from by have := h b (by simp); omega]
      exact ih (fun x hx => h x (by simp [hx]))
  refine ⟨fun j b hb => ?_, hm l h⟩
  rw [hm _ (fun x hx => h x (List.mem_of_mem_take hx))]
  have := h b (List.mem_of_getElem? hb)
  omega
theorem Rises.loop {a : Int} (now : Int) : ∀ (f : Nat) (P : SP) (o : List (Int × List Rec)), Rises a o (P.nx - 1) → Rises a (loopP now f P o).2 ((loopP now f P o).1.nx - 1)
  | 0, P, o, h => h
  | f + 1, P, o, h => by
    rw [loopP]
    split
    · refine Rises.loop now f _ _ ?_
      have h2 := h.snoc (P.nx, P.q.take (room P.q)) (by show P.nx ≤ _; omega)
      rw [show max (P.nx - 1) (P.nx, P.q.take (room P.q)).1 = (P.step now).nx - 1 from by show max (P.nx - 1) P.nx = P.nx + 1 - 1; omega] at h2
      exact h2
    · exact h
theorem SP.Ok.rises {P : SP} {k : Nat} (h : P.Ok k) (now : Int) : Rises (P.nx - 1) (P.sends now).2 ((P.sends now).1.nx - 1) := by
  unfold SP.sends
  split
  · refine Rises.loop now _ _ _ (Rises.below (fun b hb => ?_))
    obtain ⟨x, hx, rfl⟩ := List.mem_map.1 hb
    have := h.xn x (List.mem_filter.1 hx).1
    show x.1 ≤ P.nx - 1
    omega
  · exact Rises.below (fun b hb => by simp at hb)
theorem take_nx (P : SP) (as0 an : Int) (ag : Bool) (af now : Int) : (P.take as0 an ag af now).1.nx = P.nx ∧ (P.take as0 an ag af now).1.s = P.s := by
  unfold SP.take
  split
  · split
    · exact ⟨rfl, rfl⟩
    · cases P.rg.findIdx? (fun x => decide (x.1 = an)) with
      | none => exact ⟨rfl, rfl⟩
      | some i =>
        dsimp only
        cases P.rg[i]? with
        | none => exact ⟨rfl, rfl⟩
        | some x => exact ⟨rfl, rfl⟩
  · exact ⟨rfl, rfl⟩
end Go.Proofs.Ytghfoooldcbdnaa
