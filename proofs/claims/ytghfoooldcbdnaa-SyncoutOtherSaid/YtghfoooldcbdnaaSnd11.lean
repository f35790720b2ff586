/-
  THE SENDER OF PACKAGE syncout, without where it lies: what each call makes of it.
-/
import Derived.Test.YtghfoooldcbdnaaSnd10
set_option linter.unusedVariables false
set_option linter.unusedSimpArgs false
namespace Go.Proofs.Ytghfoooldcbdnaa
open Go.RowKit Go.Proofs.Ytghfoooldcbdnaa.SL Go.Proofs.YtghfoooldcbdnaaW.PrintWords

theorem map_erase {α β : Type} (f : α → β) : ∀ (l : List α) (k : Nat), (l.eraseIdx k).map f = (l.map f).eraseIdx k
  | [], k => by simp
  | x :: l, 0 => by simp
  | x :: l, k + 1 => by simp [map_erase f l k]
/-- Due again. -/
def pAgain (now ev : Int) (x : Int × List Rec × Int) : Int × List Rec × Int := if x.2.2 ≤ now then (x.1, x.2.1, now + ev) else x
/-- Due at once. -/
def pLate (an now : Int) (x : Int × List Rec × Int) : Int × List Rec × Int := if an < x.1 then (x.1, x.2.1, now) else x
theorem again_v (now ev : Int) (x : Sn) : (x.again now ev).v = pAgain now ev x.v := by
  unfold Sn.again pAgain Sn.v
  dsimp only
  split <;> rfl
theorem late_v (an now : Int) (x : Sn) : (x.late an now).v = pLate an now x.v := by
  unfold Sn.late pLate Sn.v
  dsimp only
  split <;> rfl
def SP.sends (P : SP) (now : Int) : SP × List (Int × List Rec) :=
  if 0 ≤ now ∧ now ≤ 1099511627776 then loopP now P.q.length { P with rg := P.rg.map (pAgain now P.ev) } ((P.rg.filter (fun x => decide (x.2.2 ≤ now))).map (fun x => (x.1, x.2.1))) else (P, [])
theorem sends_p (S : SS) (now : Int) : S.sends now = S.p.sends now := by
  unfold SS.sends SP.sends
  by_cases h : 0 ≤ now ∧ now ≤ 1099511627776
  · rw [if_pos h, if_pos h]
    unfold SS.sent outK
    have e1 : ({ S with rg := S.rg.map (Sn.again now S.ev) } : SS).p = { S.p with rg := S.p.rg.map (pAgain now S.p.ev) } := by
      unfold SS.p
      simp only [List.map_map]
      congr 1
      apply List.map_congr_left
      intro x _
      exact again_v now S.ev x
    have e2 : ((S.rg.take S.rg.length).filter (fun x => decide (x.due ≤ now))).map (fun x => (x.n, x.l)) = (S.p.rg.filter (fun x => decide (x.2.2 ≤ now))).map (fun x => (x.1, x.2.1)) := by
      unfold SS.p
      rw [List.take_length, List.filter_map, List.map_map]
      rfl
    rw [e1, e2]
    rfl
  · rw [if_neg h, if_neg h]
def SP.add (P : SP) (r : Rec) : SP × Bool :=
  if r.ok = true then match idxQ P.q r.fl with
    | some k => ({ P with q := P.q.set k r, kn := kpt P.kn r.fl (1, 0) }, true)
    | none => if 256 ≤ P.q.length then (P, false) else ({ P with q := P.q ++ [r], kn := kpt P.kn r.fl (1, 0) }, true)
  else (P, false)
theorem add_p (S : SS) (r : Rec) : (S.add r).1.p = (S.p.add r).1 ∧ (S.add r).2 = (S.p.add r).2 := by
  unfold SS.add SP.add
  have e : S.p.q = S.q := rfl
  rw [e]
  split
  · cases idxQ S.q r.fl with
    | some k => exact ⟨rfl, rfl⟩
    | none =>
      dsimp only
      split <;> exact ⟨rfl, rfl⟩
  · exact ⟨rfl, rfl⟩
def SP.take (P : SP) (as0 an : Int) (ag : Bool) (af now : Int) : SP × Bool :=
  if as0 = P.s then
    if ag = true then ({ P with rg := P.rg.map (pLate an now) }, true)
    else match P.rg.findIdx? (fun x => decide (x.1 = an)) with
      | none => (P, false)
      | some k => match P.rg[k]? with
        | none => (P, false)
        | some x => ({ P with rg := P.rg.eraseIdx k, kn := tk P.kn an af x.2.1 x.2.1.length }, true)
  else (P, false)
theorem take_p (S : SS) (as0 an : Int) (ag : Bool) (af now : Int) : (S.take as0 an ag af now).1.p = (S.p.take as0 an ag af now).1 ∧ (S.take as0 an ag af now).2 = (S.p.take as0 an ag af now).2 := by
  unfold SS.take SP.take
  have e : S.p.s = S.s := rfl
  rw [e]
  split
  · split
    · refine ⟨?_, rfl⟩
      unfold SS.p
      simp only [List.map_map]
      congr 1
      apply List.map_congr_left
      intro x _
      exact late_v an now x
    · have e2 : S.p.rg.findIdx? (fun x => decide (x.1 = an)) = idxR S.rg an := by
        unfold SS.p idxR
        dsimp only
        rw [List.findIdx?_map]
        rfl
      rw [e2]
      cases idxR S.rg an with
      | none => exact ⟨rfl, rfl⟩
      | some k =>
        have e3 : S.p.rg[k]? = (S.rg[k]?).map Sn.v := List.getElem?_map ..
        dsimp only
        rw [e3]
        cases S.rg[k]? with
        | none => exact ⟨rfl, rfl⟩
        | some x =>
          refine ⟨?_, rfl⟩
          unfold SS.p
          simp only [Option.map_some]
          rw [map_erase]
          rfl
  · exact ⟨rfl, rfl⟩
end Go.Proofs.Ytghfoooldcbdnaa
