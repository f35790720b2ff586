/-
  A BATCH THAT CAN BE WRITTEN: what it holds; the one that is made of a queue.
-/
import Derived.Test.YtghfoooldcbdnaaSnd9
set_option linter.unusedVariables false
set_option linter.unusedSimpArgs false
namespace Go.Proofs.Ytghfoooldcbdnaa.V
open Go.RowKit Go.Proofs.Ytghfoooldcbdnaa.SL
theorem roomGo_take : ∀ (l : List Rec) (n k j : Nat), roomGo n k l - k ≤ j → roomGo n k (l.take j) = roomGo n k l
  | [], n, k, j, _ => by simp
  | r :: l, n, k, j, hj => by
    have hk : ∀ (l : List Rec) (n k : Nat), k ≤ roomGo n k l := by
      intro l
      induction l with
      | nil => intro n k; simp [roomGo]
      | cons r l ih => intro n k; unfold roomGo; split <;> first | omega | (have := ih (n + r.size) (k + 1); omega)
    by_cases hc : 64 ≤ k ∨ 1400 < n + r.size
    · cases j with
      | zero => simp [roomGo, hc]
      | succ j => simp [roomGo, hc]
    · have h1 : roomGo n k (r :: l) = roomGo (n + r.size) (k + 1) l := by rw [roomGo, if_neg hc]
      have h2 := hk l (n + r.size) (k + 1)
      cases j with
      | zero => rw [h1] at hj; omega
      | succ j =>
        rw [h1, List.take_succ_cons, roomGo, if_neg hc]
        exact roomGo_take l (n + r.size) (k + 1) j (by rw [h1] at hj; omega)
theorem room_yes {l : List Rec} (h : l.all Rec.ok = true) (hl : 0 < room l) (s n : Int) (hs : 0 ≤ s ∧ s ≤ 4611686018427387904) (hn : 1 ≤ n ∧ n ≤ 4611686018427387904) : batchOk s n (l.take (room l)) = true := by
  have h1 := roomGo_take l 19 0 (room l) (by unfold room; omega)
  have h2 := rm_le l
  have h3 : (l.take (room l)).length = room l := by rw [List.length_take]; omega
  have h4 : (l.take (room l)).all Rec.ok = true := List.all_eq_true.2 fun x hx => List.all_eq_true.1 h x (List.mem_of_mem_take hx)
  simp only [batchOk, headOk, inB, Bool.and_eq_true, decide_eq_true_eq, beq_iff_eq, Bool.not_eq_true', List.isEmpty_eq_false_iff]
  refine ⟨⟨⟨⟨hs, hn⟩, ?_⟩, ?_⟩, h4⟩
  · intro hc; rw [hc] at h3; simp at h3; omega
  · rw [h3]; exact h1
theorem bfacts {s n : Int} {l : List Rec} (h : batchOk s n l = true) : (0 ≤ s ∧ s ≤ 4611686018427387904) ∧ (1 ≤ n ∧ n ≤ 4611686018427387904) ∧ 0 < l.length ∧ l.length ≤ 64 ∧ l.all Rec.ok = true := by
  rw [batchOk, Bool.and_eq_true] at h
  obtain ⟨h1, h2, h3, h4, h5, h6⟩ := headOk_spec h.1
  exact ⟨h1, h2, h3, h5, h.2⟩
end Go.Proofs.Ytghfoooldcbdnaa.V
