/-
  THE SENDER OF PACKAGE syncout: what stays true of it.
-/
import Derived.Test.YtghfoooldcbdnaaSnd11
set_option linter.unusedVariables false
set_option linter.unusedSimpArgs false
namespace Go.Proofs.Ytghfoooldcbdnaa
open Go.RowKit Go.Proofs.Ytghfoooldcbdnaa.SL Go.Proofs.YtghfoooldcbdnaaW.PrintWords

/-- A sender behind k calls. -/
structure SP.Ok (P : SP) (k : Nat) : Prop where
  ev : 1 ≤ P.ev ∧ P.ev ≤ 10000
  q : ∀ r ∈ P.q, r.ok = true
  ql : P.q.length ≤ 256
  rg : P.rg.length ≤ 16
  xl : ∀ x ∈ P.rg, x.2.1.length ≤ 64
  xn : ∀ x ∈ P.rg, 1 ≤ x.1 ∧ x.1 < P.nx
  nx : 1 ≤ P.nx ∧ P.nx + P.q.length ≤ 1 + k
theorem new_ok (s ev : Int) (h : 1 ≤ ev ∧ ev ≤ 10000) : (SS.new s ev).p.Ok 0 :=
  ⟨h, by intro r hr; simp [SS.new, SS.p] at hr, by simp [SS.new, SS.p], by simp [SS.new, SS.p], by intro r hr; simp [SS.new, SS.p] at hr, by intro r hr; simp [SS.new, SS.p] at hr, by simp [SS.new, SS.p]⟩
theorem SP.Ok.mono {P : SP} {k j : Nat} (h : P.Ok k) (hk : k ≤ j) : P.Ok j := ⟨h.ev, h.q, h.ql, h.rg, h.xl, h.xn, by have := h.nx; omega⟩
theorem SP.Ok.add {P : SP} {k : Nat} (h : P.Ok k) (r : Rec) : (P.add r).1.Ok (k + 1) := by
  unfold SP.add
  by_cases hr : r.ok = true
  · rw [if_pos hr]
    cases idxQ P.q r.fl with
    | some i =>
      refine ⟨h.ev, fun x hx => ?_, ?_, h.rg, h.xl, h.xn, ?_⟩
      · rcases List.mem_or_eq_of_mem_set hx with hx | rfl
        · exact h.q x hx
        · exact hr
      · show (P.q.set i r).length ≤ 256
        rw [List.length_set]; exact h.ql
      · show 1 ≤ P.nx ∧ P.nx + (P.q.set i r).length ≤ _
        rw [List.length_set]
        have := h.nx
        omega
    | none =>
      dsimp only
      by_cases hl : 256 ≤ P.q.length
      · rw [if_pos hl]
        exact h.mono (by omega)
      · rw [if_neg hl]
        refine ⟨h.ev, fun x hx => ?_, ?_, h.rg, h.xl, h.xn, ?_⟩
        · rcases List.mem_append.1 hx with hx | hx
          · exact h.q x hx
          · rw [List.mem_singleton.1 hx]; exact hr
        · show (P.q ++ [r]).length ≤ 256
          rw [List.length_append, List.length_singleton]; omega
        · show 1 ≤ P.nx ∧ P.nx + (P.q ++ [r]).length ≤ _
          rw [List.length_append, List.length_singleton]
          have := h.nx
          omega
  · rw [if_neg hr]
    exact h.mono (by omega)
theorem SP.Ok.rgMap {P : SP} {k : Nat} (h : P.Ok k) (f : Int × List Rec × Int → Int × List Rec × Int) (h1 : ∀ x, (f x).1 = x.1) (h2 : ∀ x, (f x).2.1 = x.2.1) : ({ P with rg := P.rg.map f } : SP).Ok k := by
  refine ⟨h.ev, h.q, h.ql, ?_, fun x hx => ?_, fun x hx => ?_, h.nx⟩
  · show (P.rg.map f).length ≤ 16
    rw [List.length_map]; exact h.rg
  · obtain ⟨y, hy, rfl⟩ := List.mem_map.1 hx
    rw [h2]; exact h.xl y hy
  · obtain ⟨y, hy, rfl⟩ := List.mem_map.1 hx
    rw [h1]; exact h.xn y hy
theorem pLate_1 (an now : Int) (x : Int × List Rec × Int) : (pLate an now x).1 = x.1 := by unfold pLate; split <;> rfl
theorem pLate_2 (an now : Int) (x : Int × List Rec × Int) : (pLate an now x).2.1 = x.2.1 := by unfold pLate; split <;> rfl
theorem pAgain_1 (now ev : Int) (x : Int × List Rec × Int) : (pAgain now ev x).1 = x.1 := by unfold pAgain; split <;> rfl
theorem pAgain_2 (now ev : Int) (x : Int × List Rec × Int) : (pAgain now ev x).2.1 = x.2.1 := by unfold pAgain; split <;> rfl
theorem SP.Ok.take {P : SP} {k : Nat} (h : P.Ok k) (as0 an : Int) (ag : Bool) (af now : Int) : (P.take as0 an ag af now).1.Ok k := by
  unfold SP.take
  split
  · split
    · exact h.rgMap _ (pLate_1 an now) (pLate_2 an now)
    · cases P.rg.findIdx? (fun x => decide (x.1 = an)) with
      | none => exact h
      | some i =>
        dsimp only
        cases P.rg[i]? with
        | none => exact h
        | some x =>
          have hs := List.eraseIdx_sublist P.rg i
          exact ⟨h.ev, h.q, h.ql, Nat.le_trans hs.length_le h.rg, fun y hy => h.xl y (hs.subset hy), fun y hy => h.xn y (hs.subset hy), h.nx⟩
  · exact h
theorem SP.room_rg {P : SP} (h : P.room = true) : P.rg.length < 16 := by
  unfold SP.room at h
  cases h0 : P.rg[0]? with
  | none =>
    rw [List.getElem?_eq_none_iff] at h0
    omega
  | some x =>
    rw [h0] at h
    simp at h
    exact h.1
theorem SP.Ok.step {P : SP} {k : Nat} (h : P.Ok k) (hq : P.q.isEmpty = false) (hr : P.room = true) (now : Int) : (P.step now).Ok k := by
  have hl : 0 < P.q.length := by
    cases h0 : P.q with
    | nil => rw [h0] at hq; cases hq
    | cons _ _ => simp
  have m0 := rm_pos h.q hl
  have m1 := rm_le P.q
  have m2 := rm_64 P.q
  have hn := h.nx
  have hg := SP.room_rg hr
  have hd : (P.q.drop (Ytghfoooldcbdnaa.room P.q)).length = P.q.length - Ytghfoooldcbdnaa.room P.q := List.length_drop
  refine ⟨h.ev, fun r hr => h.q r (List.mem_of_mem_drop hr), ?_, ?_, fun x hx => ?_, fun x hx => ?_, ?_⟩
  · show (P.q.drop _).length ≤ 256
    have := h.ql
    omega
  · show (P.rg ++ [_]).length ≤ 16
    rw [List.length_append, List.length_singleton]; omega
  · rcases List.mem_append.1 hx with hx | hx
    · exact h.xl x hx
    · rw [List.mem_singleton.1 hx]
      show (P.q.take _).length ≤ 64
      rw [List.length_take]; omega
  · show 1 ≤ x.1 ∧ x.1 < P.nx + 1
    rcases List.mem_append.1 hx with hx | hx
    · have := h.xn x hx; omega
    · rw [List.mem_singleton.1 hx]
      exact ⟨hn.1, by show P.nx < P.nx + 1; omega⟩
  · show 1 ≤ P.nx + 1 ∧ P.nx + 1 + (P.q.drop _).length ≤ 1 + k
    omega
theorem SP.Ok.loop {k : Nat} (now : Int) : ∀ (f : Nat) (P : SP) (o : List (Int × List Rec)), P.Ok k → (loopP now f P o).1.Ok k
  | 0, P, o, h => h
  | f + 1, P, o, h => by
    rw [loopP]
    split
    · exact SP.Ok.loop now f _ _ (h.step (‹_ ∧ _›).1 (‹_ ∧ _›).2 now)
    · exact h
theorem SP.Ok.sends {P : SP} {k : Nat} (h : P.Ok k) (now : Int) : (P.sends now).1.Ok k := by
  unfold SP.sends
  split
  · exact SP.Ok.loop now _ _ _ (h.rgMap _ (pAgain_1 now P.ev) (pAgain_2 now P.ev))
  · exact h
end Go.Proofs.Ytghfoooldcbdnaa
