/-
  THE SENDER OF PACKAGE syncout: each batch that waits, or is handed out, is one that can be written.
-/
import Derived.Test.YtghfoooldcbdnaaSnd13
import Derived.Test.YtghfoooldcbdnaaRoomP
set_option linter.unusedVariables false
set_option linter.unusedSimpArgs false
namespace Go.Proofs.Ytghfoooldcbdnaa
open Go.RowKit Go.Proofs.Ytghfoooldcbdnaa.SL Go.Proofs.YtghfoooldcbdnaaW.PrintWords
def SP.Bat (P : SP) : Prop := ∀ x ∈ P.rg, batchOk P.s x.1 x.2.1 = true
theorem add_rg (P : SP) (r : Rec) : (P.add r).1.rg = P.rg ∧ (P.add r).1.s = P.s ∧ (P.add r).1.nx = P.nx := by
  unfold SP.add
  split
  · cases idxQ P.q r.fl with
    | some k => exact ⟨rfl, rfl, rfl⟩
    | none => dsimp only; split <;> exact ⟨rfl, rfl, rfl⟩
  · exact ⟨rfl, rfl, rfl⟩
theorem SP.Bat.add {P : SP} (h : P.Bat) (r : Rec) : (P.add r).1.Bat := by
  unfold SP.Bat
  rw [(add_rg P r).1, (add_rg P r).2.1]
  exact h
theorem SP.Bat.rgMap {P : SP} (h : P.Bat) (f : Int × List Rec × Int → Int × List Rec × Int) (h1 : ∀ x, (f x).1 = x.1) (h2 : ∀ x, (f x).2.1 = x.2.1) : ({ P with rg := P.rg.map f } : SP).Bat := by
  intro x hx
  obtain ⟨y, hy, rfl⟩ := List.mem_map.1 hx
  rw [h1, h2]
  exact h y hy
theorem SP.Bat.take {P : SP} (h : P.Bat) (as0 an : Int) (ag : Bool) (af now : Int) : (P.take as0 an ag af now).1.Bat := by
  unfold SP.take
  split
  · split
    · exact h.rgMap _ (pLate_1 an now) (pLate_2 an now)
    · cases P.rg.findIdx? (fun x => decide (x.1 = an)) with
      | none => exact h
      | some i =>
        dsimp only
        cases P.rg[i]? with
        | none => exact h
        | some x => exact fun y hy => h y ((List.eraseIdx_sublist P.rg i).subset hy)
  · exact h
theorem new_bat {P : SP} {k : Nat} (h : P.Ok k) (hk : k ≤ 1000000) (hs : 0 ≤ P.s ∧ P.s ≤ 4611686018427387904) (hq : P.q.isEmpty = false) : batchOk P.s P.nx (P.q.take (room P.q)) = true := by
  have hl : 0 < P.q.length := by
    cases h0 : P.q with
    | nil => rw [h0] at hq; cases hq
    | cons _ _ => simp
  have hn := h.nx
  exact V.room_yes (List.all_eq_true.2 h.q) (rm_pos h.q hl) P.s P.nx hs (by omega)
theorem SP.Bat.step {P : SP} {k : Nat} (h : P.Bat) (ho : P.Ok k) (hk : k ≤ 1000000) (hs : 0 ≤ P.s ∧ P.s ≤ 4611686018427387904) (hq : P.q.isEmpty = false) (now : Int) : (P.step now).Bat := by
  intro x hx
  rcases List.mem_append.1 hx with hx | hx
  · exact h x hx
  · rw [List.mem_singleton.1 hx]
    exact new_bat ho hk hs hq
theorem SP.Bat.loop {k : Nat} (hk : k ≤ 1000000) (now : Int) : ∀ (f : Nat) (P : SP) (o : List (Int × List Rec)), P.Bat → P.Ok k → (0 ≤ P.s ∧ P.s ≤ 4611686018427387904) → (∀ b ∈ o, batchOk P.s b.1 b.2 = true) → (loopP now f P o).1.Bat ∧ (loopP now f P o).1.s = P.s ∧ ∀ b ∈ (loopP now f P o).2, batchOk P.s b.1 b.2 = true
  | 0, P, o, h, _, _, hb => ⟨h, rfl, hb⟩
  | f + 1, P, o, h, ho, hs, hb => by
    rw [loopP]
    split
    · have hc := ‹_ ∧ _›
      exact SP.Bat.loop hk now f (P.step now) _ (h.step ho hk hs hc.1 now) (ho.step hc.1 hc.2 now) hs (fun b hb2 => by
        rcases List.mem_append.1 hb2 with hb2 | hb2
        · exact hb b hb2
        · rw [List.mem_singleton.1 hb2]
          exact new_bat ho hk hs hc.1)
    · exact ⟨h, rfl, hb⟩
/-- What Send hands out can be written, and what waits too. -/
theorem SP.Bat.sends {P : SP} {k : Nat} (h : P.Bat) (ho : P.Ok k) (hk : k ≤ 1000000) (hs : 0 ≤ P.s ∧ P.s ≤ 4611686018427387904) (now : Int) : (P.sends now).1.Bat ∧ (P.sends now).1.s = P.s ∧ ∀ b ∈ (P.sends now).2, batchOk P.s b.1 b.2 = true := by
  unfold SP.sends
  split
  · refine SP.Bat.loop hk now _ _ _ (h.rgMap _ (pAgain_1 now P.ev) (pAgain_2 now P.ev)) (ho.rgMap _ (pAgain_1 now P.ev) (pAgain_2 now P.ev)) hs (fun b hb => ?_)
    obtain ⟨x, hx, rfl⟩ := List.mem_map.1 hb
    exact h x (List.mem_filter.1 hx).1
  · exact ⟨h, rfl, fun b hb => by simp at hb⟩
end Go.Proofs.Ytghfoooldcbdnaa
