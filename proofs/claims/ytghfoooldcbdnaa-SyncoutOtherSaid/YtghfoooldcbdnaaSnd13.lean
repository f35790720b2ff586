/-
  THE SENDER OF PACKAGE syncout: its calls, where what stays true of it is known.
-/
import Derived.Test.YtghfoooldcbdnaaSnd12
set_option linter.unusedVariables false
set_option linter.unusedSimpArgs false
namespace Go.Proofs.Ytghfoooldcbdnaa
open Go.RowKit Go.Proofs.Ytghfoooldcbdnaa.SL Go.Proofs.YtghfoooldcbdnaaW.PrintWords
section
variable {g : Nat} {S : SS} {k : Nat} {B : Nat} {w0 w : World} {H : List As}
theorem SendK (now : Int) (h : S.p.Ok k) (hk : k ≤ 1000000) (HM : SL.Mod B w0 (snd g S :: H) w) :
    Calls Try.prog 34 #[.pointer (some ⟨g, 0, none⟩), .int .i64 now] w fun e w' => ∃ (v : Value) (bl : List Bt) (S' : SS), e = .returned v ∧ S'.p = (S.p.sends now).1 ∧ bl.map Bt.v = (S.p.sends now).2 ∧ SL.Mod B w0 (snd g S' :: row v 61 3 bl.length (bts S.s bl) :: SL.star (bl.map Bt.own) :: H) w' := by
  have h1 : 1 ≤ S.ev ∧ S.ev ≤ 10000 := h.ev
  have h2 : S.q.length ≤ 256 := h.ql
  have h3 : S.rg.length ≤ 16 := by have := h.rg; rwa [show S.p.rg = S.rg.map Sn.v from rfl, List.length_map] at this
  have h4 : 1 ≤ S.nx ∧ S.nx + S.q.length ≤ 1 + k := h.nx
  refine (Send_calls g S now (by omega) (by omega) (fun x hx => h.xl x.v (List.mem_map_of_mem hx)) (fun x hx => ?_) h.q (by omega) (by omega) B w0 w H HM).mono ?_
  · have := h.xn x.v (List.mem_map_of_mem hx)
    have e1 : x.v.1 = x.n := rfl
    have e2 : S.p.nx = S.nx := rfl
    omega
  · rintro e w' ⟨v, bl, S', rfl, h5, HM1⟩
    rw [sends_p] at h5
    exact ⟨v, bl, S', rfl, by rw [← h5], by rw [← h5], HM1⟩
theorem TakeK (as0 an af now : Int) (ag : Bool) (h : S.p.Ok k) (ha : 0 ≤ af ∧ af ≤ 18446744073709551615) (HM : SL.Mod B w0 (snd g S :: H) w) :
    Calls Try.prog 36 #[.pointer (some ⟨g, 0, none⟩), .agg (ansC as0 an ag af).toArray, .int .i64 now] w fun e w' => ∃ S' : SS, e = .returned (.bool (S.p.take as0 an ag af now).2) ∧ S'.p = (S.p.take as0 an ag af now).1 ∧ SL.Mod B w0 (snd g S' :: H) w' := by
  have h3 : S.rg.length ≤ 16 := by have := h.rg; rwa [show S.p.rg = S.rg.map Sn.v from rfl, List.length_map] at this
  refine (TakeS_calls g S as0 an af now ag (by omega) (fun x hx => h.xl x.v (List.mem_map_of_mem hx)) ha B w0 w H HM).mono ?_
  rintro e w' ⟨rfl, HM1⟩
  exact ⟨_, by rw [(take_p S as0 an ag af now).2], (take_p S as0 an ag af now).1, HM1⟩
theorem AddK (r : Rec) (h : S.p.Ok k) (h1 : r.fr.size ≤ maxLen) (h2 : r.tt.size ≤ maxLen) (HM : SL.Mod B w0 (snd g S :: H) w) :
    Calls Try.prog 33 #[.pointer (some ⟨g, 0, none⟩), .agg r.cells.toArray] w fun e w' => ∃ S' : SS, e = .returned (.bool (S.p.add r).2) ∧ S'.p = (S.p.add r).1 ∧ SL.Mod B w0 (snd g S' :: H) w' := by
  refine (Add_calls g S r h.ql h1 h2 B w0 w H HM).mono ?_
  rintro e w' ⟨rfl, HM1⟩
  exact ⟨_, by rw [(add_p S r).2], (add_p S r).1, HM1⟩
theorem KnownK (f : Fl) (HM : SL.Mod B w0 (snd g S :: H) w) :
    Calls Try.prog 45 #[.pointer (some ⟨g, 0, none⟩), .agg f.cells.toArray] w fun e w' => e = .returned (.int .i64 (kmk S.p.kn f).1) ∧ SL.Mod B w0 (snd g S :: H) w' := Known_calls g S f B w0 w H HM
theorem WaitingK (HM : SL.Mod B w0 (snd g S :: H) w) : Calls Try.prog 37 #[.pointer (some ⟨g, 0, none⟩)] w fun e w' => e = .returned (.tuple #[.int .i64 S.p.q.length, .int .i64 S.p.rg.length]) ∧ SL.Mod B w0 (snd g S :: H) w' := by
  rw [show S.p.rg.length = S.rg.length from by rw [show S.p.rg = S.rg.map Sn.v from rfl, List.length_map]]
  exact Waiting_calls g S B w0 w H HM
end
end Go.Proofs.Ytghfoooldcbdnaa
