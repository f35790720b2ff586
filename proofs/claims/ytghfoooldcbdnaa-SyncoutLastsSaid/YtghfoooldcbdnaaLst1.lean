/-
  THE SENDER OF PACKAGE syncout: rounds in which each batch is answered as it is sent.
-/
import Derived.Test.YtghfoooldcbdnaaWait
import Derived.Test.YtghfoooldcbdnaaBnd2
set_option linter.unusedVariables false
set_option linter.unusedSimpArgs false
namespace Go.Proofs.Ytghfoooldcbdnaa
open Go.RowKit Go.Proofs.Ytghfoooldcbdnaa.SL Go.Proofs.YtghfoooldcbdnaaW.PrintWords
theorem loop_ev (now : Int) : ∀ (f : Nat) (P : SP) (o : List (Int × List Rec)), (loopP now f P o).1.ev = P.ev
  | 0, P, o => rfl
  | f + 1, P, o => by
    rw [loopP]
    split
    · exact loop_ev now f (P.step now) _
    · rfl
theorem sends_ev (P : SP) (now : Int) : (P.sends now).1.ev = P.ev := by
  unfold SP.sends
  split
  · exact loop_ev now _ _ _
  · rfl
theorem add_ev (P : SP) (r : Rec) : (P.add r).1.ev = P.ev := by
  unfold SP.add
  split
  · cases idxQ P.q r.fl with
    | some k => rfl
    | none => dsimp only; split <;> rfl
  · rfl
theorem take_ev (P : SP) (as0 an : Int) (ag : Bool) (af now : Int) : (P.take as0 an ag af now).1.ev = P.ev := by
  unfold SP.take
  split
  · split
    · rfl
    · cases P.rg.findIdx? (fun x => decide (x.1 = an)) with
      | none => rfl
      | some i =>
        dsimp only
        cases P.rg[i]? with
        | none => rfl
        | some x => rfl
  · rfl
theorem loop_due {t now : Int} : ∀ (f : Nat) (P : SP) (o : List (Int × List Rec)), P.Due t → now + P.ev ≤ t → (loopP now f P o).1.Due t
  | 0, P, o, h, _ => h
  | f + 1, P, o, h, ht => by
    rw [loopP]
    split
    · refine loop_due f (P.step now) _ (fun x hx => ?_) ht
      rcases List.mem_append.1 hx with hx | hx
      · exact h x hx
      · rw [List.mem_singleton.1 hx]; exact ht
    · exact h
theorem sends_due {P : SP} {t now : Int} (h : P.Due t) (ht : now + P.ev ≤ t) : (P.sends now).1.Due t := by
  unfold SP.sends
  split
  · refine loop_due _ _ _ (fun x hx => ?_) ht
    obtain ⟨y, hy, rfl⟩ := List.mem_map.1 hx
    unfold pAgain
    split
    · exact ht
    · exact h y hy
  · exact h
/-- A sender, and what was added to it. -/
structure LA (S : SS) (k : Nat) (added : List Fl) : Prop where
  sb : SB S k 1
  ev : S.p.ev = 10
  wt : S.p.Wt
  kn : ∀ f ∈ added, (kmk S.p.kn f).1 = 1 ∨ (kmk S.p.kn f).1 = 2
theorem LA.new : LA (SS.new 1 10) 0 [] := ⟨SB.new 1 10 (by decide), rfl, new_wt 1 10, fun f hf => by cases hf⟩
theorem LA.mono {S : SS} {k j : Nat} {a : List Fl} (h : LA S k a) (hk : k ≤ j) : LA S j a := ⟨h.sb.mono hk, h.ev, h.wt, h.kn⟩
theorem add_one (P : SP) (r : Rec) (f : Fl) : kmk (P.add r).1.kn f = kmk P.kn f ∨ kmk (P.add r).1.kn f = (1, 0) := by
  unfold SP.add
  split
  · cases idxQ P.q r.fl with
    | some k =>
      dsimp only
      rw [kmk_pt]
      split
      · exact .inr rfl
      · exact .inl rfl
    | none =>
      dsimp only
      split
      · exact .inl rfl
      · dsimp only
        rw [kmk_pt]
        split
        · exact .inr rfl
        · exact .inl rfl
  · exact .inl rfl
theorem LA.add {S S1 : SS} {k : Nat} {a : List Fl} (h : LA S k a) {r : Rec} (h1 : S1.p = (S.p.add r).1) : LA S1 (k + 1) a :=
  ⟨h.sb.add h1, by rw [h1, add_ev]; exact h.ev, by rw [h1]; exact h.wt.add r, fun f hf => by
    rw [h1]
    rcases add_one S.p r f with e | e
    · rw [e]; exact h.kn f hf
    · rw [e]; exact .inl rfl⟩
theorem LA.added {S S1 : SS} {k : Nat} {a : List Fl} (h : LA S k a) {r : Rec} (h1 : S1.p = (S.p.add r).1) (h2 : (S.p.add r).2 = true) : LA S1 (k + 1) (a ++ [r.fl]) := by
  have h3 := h.add h1
  refine ⟨h3.sb, h3.ev, h3.wt, fun f hf => ?_⟩
  rcases List.mem_append.1 hf with hf | hf
  · exact h3.kn f hf
  · rw [List.mem_singleton.1 hf, h1, add_yes h2]
    exact .inl rfl
theorem LA.sends {S S1 : SS} {k : Nat} {a : List Fl} (h : LA S k a) (hk : k ≤ 1000000) {now : Int} (h1 : S1.p = (S.p.sends now).1) : LA S1 k a :=
  ⟨h.sb.sends hk h1, by rw [h1, sends_ev]; exact h.ev, by rw [h1]; exact h.wt.sends now, fun f hf => by
    rw [h1]
    rcases sends_known S.p now f with e | e
    · rw [e]; exact h.kn f hf
    · exact .inl e⟩
theorem bitA_zero (i : Nat) : bitA 0 i = false := by unfold bitA; simp
theorem LA.take {S S1 : SS} {k : Nat} {a : List Fl} (h : LA S k a) {n : Int} (h1 : S1.p = (S.p.take 1 n false 0 0).1) : LA S1 k a :=
  ⟨h.sb.take h1, by rw [h1, take_ev]; exact h.ev, by rw [h1]; exact h.wt.take _ _ _ _ _, fun f hf => by
    rw [h1]
    rcases take_known S.p 1 n false 0 0 f with e | ⟨_, i, e⟩
    · rw [e]; exact h.kn f hf
    · rw [e, bitA_zero]; exact .inr rfl⟩
/-- Ahead of round i. -/
structure LR (S : SS) (k : Nat) (a : List Fl) (i : Nat) : Prop where
  la : LA S k a
  st : (i = 0 ∧ S.p.Due 1099509627786) ∨ (0 < i ∧ S.p.rg = [] ∧ (S.p.q = [] ∨ S.p.q.length + 16 * (i - 1) ≤ 256))
/-- Within round i: what is left to be answered. -/
structure LQ (S : SS) (k : Nat) (a : List Fl) (i : Nat) (rest : List (Int × List Rec)) : Prop where
  la : LA S k a
  nums : S.p.rg.map (·.1) = rest.map (·.1)
  q : S.p.q = [] ∨ S.p.q.length + 16 * i ≤ 256
theorem LR.send {S S1 : SS} {k : Nat} {a : List Fl} {i : Nat} (h : LR S k a i) (hk : k ≤ 1000000) (hi : i < 60) (h1 : S1.p = (S.p.sends (1099510627776 + 20 * (i : Int))).1) : LQ S1 k a i (S.p.sends (1099510627776 + 20 * (i : Int))).2 := by
  have hla := h.la.sends hk h1
  refine ⟨hla, ?_, ?_⟩
  · rw [h1]
    refine sends_nums (by omega) (by omega) ?_
    rcases h.st with ⟨_, h2⟩ | ⟨_, h2, _⟩
    · intro x hx
      have := h2 x hx
      omega
    · intro x hx
      rw [h2] at hx
      cases hx
  · rcases h.st with ⟨h2, _⟩ | ⟨h2, h3, h4⟩
    · right
      have := hla.sb.ok.ql
      omega
    · rw [h1]
      have hf := sends_fresh (P := S.p) (now := 1099510627776 + 20 * (i : Int)) (by omega) (by omega) h.la.sb.ok.q h3
      have hr := sends_rest (P := S.p) (1099510627776 + 20 * (i : Int))
      rcases h4 with h4 | h4
      · left
        rw [h4] at hr
        exact List.eq_nil_of_length_eq_zero (by simpa using hr)
      · rcases hf with hf | hf
        · exact .inl hf
        · right
          omega
theorem LQ.take {S S1 : SS} {k : Nat} {a : List Fl} {i : Nat} {n : Int} {l : List Rec} {rest : List (Int × List Rec)} (h : LQ S k a i ((n, l) :: rest)) (h1 : S1.p = (S.p.take 1 n false 0 0).1) : LQ S1 k a i rest := by
  have hn := h.nums
  cases hr : S.p.rg with
  | nil => rw [hr] at hn; simp at hn
  | cons x t =>
    rw [hr] at hn
    simp only [List.map_cons, List.cons.injEq] at hn
    obtain ⟨e1, e2⟩ := hn
    have hh := take_head hr 0 0
    rw [show S.p.s = 1 from h.la.sb.ss, e1] at hh
    exact ⟨h.la.take h1, by rw [h1, hh.2]; exact e2, by rw [h1, take_q]; exact h.q⟩
theorem LQ.yes {S : SS} {k : Nat} {a : List Fl} {i : Nat} {n : Int} {l : List Rec} {rest : List (Int × List Rec)} (h : LQ S k a i ((n, l) :: rest)) : (S.p.take 1 n false 0 0).2 = true := by
  have hn := h.nums
  cases hr : S.p.rg with
  | nil => rw [hr] at hn; simp at hn
  | cons x t =>
    rw [hr] at hn
    simp only [List.map_cons, List.cons.injEq] at hn
    obtain ⟨e1, e2⟩ := hn
    have hh := take_head hr 0 0
    rw [show S.p.s = 1 from h.la.sb.ss, e1] at hh
    exact hh.1
theorem LQ.done {S : SS} {k : Nat} {a : List Fl} {i : Nat} (h : LQ S k a i []) : LR S k a (i + 1) :=
  ⟨h.la, .inr ⟨by omega, List.map_eq_nil_iff.1 h.nums, h.q⟩⟩
theorem LR.done {S : SS} {k : Nat} {a : List Fl} (h : LR S k a 60) : S.p.q.length = 0 ∧ S.p.rg.length = 0 ∧ ∀ f ∈ a, (kmk S.p.kn f).1 = 2 := by
  rcases h.st with ⟨h1, _⟩ | ⟨_, h2, h3⟩
  · omega
  · have hq : S.p.q = [] := by
      rcases h3 with h3 | h3
      · exact h3
      · omega
    refine ⟨by rw [hq]; rfl, by rw [h2]; rfl, fun f hf => ?_⟩
    rcases h.la.kn f hf with e | e
    · exact absurd e (h.la.wt.done hq h2 f)
    · exact e
end Go.Proofs.Ytghfoooldcbdnaa
