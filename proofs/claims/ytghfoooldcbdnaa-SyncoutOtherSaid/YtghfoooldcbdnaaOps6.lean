/-
  BUNDLES OF OWN THINGS; rows opened and closed; a row that is read no more than that.
-/
import Derived.Test.YtghfoooldcbdnaaOps5
import Derived.Test.YtghfoooldcbdnaaOps4
set_option linter.unusedVariables false
set_option linter.unusedSimpArgs false
namespace Go.Proofs.Ytghfoooldcbdnaa.SL
open Go.RowKit Go.Proofs.YtghfoooldcbdnaaW.PrintWords
/-- Several things as one. -/
def star (L : List As) : As where
  sat F w := Sat L F w
  loc h hk := Sat.loc h hk
  up h hk := Sat.up h hk
section
variable {B : Nat} {w0 w : World} {H L R : List As}
theorem Mod.unstar (h : Mod B w0 (star L :: H) w) : Mod B w0 (L ++ H) w := by
  obtain ⟨F1, h1, h2, h3⟩ := h.sat
  exact ⟨h.below, h.low, (Sat.append (show Sat L F1 w from h2) h3 (fun b hb hc => hc.2 hb)).up (fun b hb => hb.elim (h1 b) (fun hc => hc.1))⟩
theorem Mod.star (h : Mod B w0 (L ++ H) w) : Mod B w0 (SL.star L :: H) w := by
  obtain ⟨F1, F2, h1, h2, h3, h4, h5⟩ := Sat.part h.sat
  exact ⟨h.below, h.low, F1, h3, h1, h2.up (fun b hb => ⟨h4 b hb, fun hc => h5 b hc hb⟩)⟩
theorem Mod.starNil (h : Mod B w0 H w) : Mod B w0 (SL.star [] :: H) w := Mod.star (L := []) h
/-- One more in the bundle. -/
theorem Mod.starSnoc {A : As} (h : Mod B w0 (SL.star L :: A :: H) w) : Mod B w0 (SL.star (L ++ [A]) :: H) w := by
  have h1 := h.unstar
  refine Mod.star ?_
  rw [List.append_assoc]
  exact h1
theorem sat_mem {A : As} : ∀ {L : List As} {F : Nat → Prop} {w : World}, A ∈ L → Sat L F w → ∃ F1 : Nat → Prop, A.sat F1 w
  | [], _, _, h, _ => by cases h
  | C :: L, F, w, h, ⟨F1, h1, h2, h3⟩ => by
    rcases List.mem_cons.1 h with rfl | h
    · exact ⟨F1, h2⟩
    · exact sat_mem h h3
theorem sat_sub : ∀ {L' L : List As} {F : Nat → Prop} {w : World}, L'.Sublist L → Sat L F w → Sat L' F w
  | _, [], _, _, h, _ => by rw [List.sublist_nil.1 h]; trivial
  | L', A :: L, F, w, h, ⟨F1, h1, h2, h3⟩ => by
    cases h with
    | cons _ h => exact (sat_sub h h3).up (fun b hb => hb.1)
    | cons_cons _ h => exact ⟨F1, h1, h2, sat_sub h h3⟩
theorem Mod.starSub {L' : List As} (h : Mod B w0 (SL.star L :: H) w) (hs : L'.Sublist L) : Mod B w0 (SL.star L' :: H) w := by
  obtain ⟨F1, h1, h2, h3⟩ := h.sat
  exact ⟨h.below, h.low, F1, h1, sat_sub hs h2, h3⟩
theorem Mod.headSat {A : As} (h : Mod B w0 (A :: H) w) : ∃ F1 : Nat → Prop, A.sat F1 w := by
  obtain ⟨F1, _, h2, _⟩ := h.sat
  exact ⟨F1, h2⟩
/-- A row, read no more than that. -/
theorem Mod.rowSeen {A : Option Addr} {n c m : Nat} {e : TypeId} {sz : Nat} {xs : List Value} (h : Mod B w0 (row (.slice A m c) e sz n xs :: H) w) : Mod B w0 (SL.seen A xs :: H) w := by
  obtain ⟨F1, h1, h2, h3⟩ := h.sat
  refine ⟨h.below, h.low, F1, h1, ⟨fun ad e => h2.1 _ (by rw [e]; rfl), (ownsRow_reads h2.2).1⟩, h3⟩
/-- A row's block. -/
theorem Mod.openRow {ad : Addr} {n c m : Nat} {e : TypeId} {sz : Nat} {xs : List Value} (h : Mod B w0 (row (.slice (some ad) m c) e sz n xs :: H) w) :
    ∃ g cs, ad = ⟨g, 0, none⟩ ∧ Mod B w0 (cells g cs e :: H) w ∧ m = n ∧ n ≤ c ∧ c ≤ maxLen ∧ cs.length = c * sz ∧ cs.take (n * sz) = xs := by
  obtain ⟨F1, h1, h2, h3⟩ := h.sat
  rcases h2.2.2 with ⟨hv, _⟩ | ⟨g, cap, cur, hv, _, hg, hn, hc, hs, ht⟩
  · cases hv
  · injection hv with e1 e2 e3
    injection e1 with e1
    subst e1 e2 e3
    exact ⟨g, cur.toList, rfl, ⟨h.below, h.low, F1, h1, ⟨h2.1 g rfl, hg⟩, h3⟩, rfl, hn, hc, by simpa using hs, ht⟩
theorem Mod.closeRow {g n c : Nat} {e : TypeId} {sz : Nat} {cs xs : List Value} (h : Mod B w0 (cells g cs e :: H) w) (hn : n ≤ c) (hc : c ≤ maxLen) (hs : cs.length = c * sz) (ht : cs.take (n * sz) = xs) :
    Mod B w0 (row (.slice (some ⟨g, 0, none⟩) n c) e sz n xs :: H) w := by
  obtain ⟨F1, h1, h2, h3⟩ := h.sat
  refine ⟨h.below, h.low, F1, h1, ⟨fun k hk => ?_, ?_, .inr ⟨g, c, cs.toArray, rfl, Nat.zero_le _, h2.2, hn, hc, by simpa using hs, by simpa using ht⟩⟩, h3⟩
  · have : g = k := by simpa [Value.ownBlock] using hk
    exact this ▸ h2.1
  · rw [← ht, List.length_take, hs]
    exact Nat.min_eq_left (Nat.mul_le_mul_right _ hn)
end
end Go.Proofs.Ytghfoooldcbdnaa.SL
