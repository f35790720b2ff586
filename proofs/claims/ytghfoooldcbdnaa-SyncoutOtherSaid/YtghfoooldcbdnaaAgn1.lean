/-
  ROWS THAT ARE WRITTEN, WHATEVER STANDS IN THEM: one of a bundle taken out, and put back.
-/
import Derived.Test.YtghfoooldcbdnaaPlain15
set_option linter.unusedVariables false
set_option linter.unusedSimpArgs false
namespace Go.Proofs.Ytghfoooldcbdnaa.SL
open Go.RowKit Go.Proofs.YtghfoooldcbdnaaW.PrintWords
theorem Sat.under {w : World} {A : As} {H H' : List As} (hh : ∀ F, Sat H F w → Sat H' F w) {F : Nat → Prop} : Sat (A :: H) F w → Sat (A :: H') F w
  | ⟨F1, h1, h2, h3⟩ => ⟨F1, h1, h2, hh _ h3⟩
theorem Sat.swap {w : World} {A C : As} {H : List As} {F : Nat → Prop} (h : Sat (A :: C :: H) F w) : Sat (C :: A :: H) F w := (Pick.tail (A := C) (C := A) (h := Pick.head)).sat h
theorem sat_pick {w : World} {A : As} {H : List As} : ∀ {L : List As} {i : Nat} {F : Nat → Prop}, L[i]? = some A → Sat (L ++ H) F w → Sat (A :: (L.eraseIdx i ++ H)) F w
  | [], _, _, h, _ => by simp at h
  | C :: L, 0, F, h, hs => by
    have e : C = A := by simpa using h
    subst e
    exact hs
  | C :: L, i + 1, F, h, hs => by
    have h2 : L[i]? = some A := by simpa using h
    exact Sat.swap (Sat.under (fun F' => sat_pick (F := F') h2) hs)
theorem sat_put {w : World} {A : As} {H : List As} : ∀ {L : List As} {i : Nat} {F : Nat → Prop}, L[i]? = some A → Sat (A :: (L.eraseIdx i ++ H)) F w → Sat (L ++ H) F w
  | [], _, _, h, _ => by simp at h
  | C :: L, 0, F, h, hs => by
    have e : C = A := by simpa using h
    subst e
    exact hs
  | C :: L, i + 1, F, h, hs => by
    have h2 : L[i]? = some A := by simpa using h
    exact Sat.under (fun F' => sat_put (F := F') h2) (Sat.swap (A := A) (C := C) hs)
theorem sat_star {w : World} {L H : List As} {F : Nat → Prop} (h : Sat (L ++ H) F w) : Sat (star L :: H) F w := by
  obtain ⟨F1, F2, h1, h2, h3, h4, h5⟩ := Sat.part h
  exact ⟨F1, h3, h1, h2.up (fun b hb => ⟨h4 b hb, fun hc => h5 b hc hb⟩)⟩
theorem sat_unstar {w : World} {L H : List As} {F : Nat → Prop} (h : Sat (star L :: H) F w) : Sat (L ++ H) F w := by
  obtain ⟨F1, h1, h2, h3⟩ := h
  exact (Sat.append (show Sat L F1 w from h2) h3 (fun b hb hc => hc.2 hb)).up (fun b hb => hb.elim (h1 b) (fun hc => hc.1))
section
variable {B : Nat} {w0 w : World} {H L : List As} {A : As} {i : Nat}
theorem Mod.starPick (h : Mod B w0 (SL.star L :: H) w) (hi : L[i]? = some A) : Mod B w0 (A :: SL.star (L.eraseIdx i) :: H) w :=
  ⟨h.below, h.low, Sat.under (fun F => sat_star) (sat_pick hi (sat_unstar h.sat))⟩
theorem Mod.starPut (h : Mod B w0 (A :: SL.star (L.eraseIdx i) :: H) w) (hi : L[i]? = some A) : Mod B w0 (SL.star L :: H) w :=
  ⟨h.below, h.low, sat_star (sat_put hi (Sat.under (fun F => sat_unstar) h.sat))⟩
/-- A bundle, each thing of it said of less. -/
theorem sat_weaken {α : Type} {f g : α → As} (hfg : ∀ x F w, (f x).sat F w → (g x).sat F w) : ∀ {l : List α} {F : Nat → Prop}, Sat (l.map f) F w → Sat (l.map g) F w
  | [], _, _ => trivial
  | x :: l, _, ⟨F1, h1, h2, h3⟩ => ⟨F1, h1, hfg x F1 w h2, sat_weaken hfg h3⟩
theorem Mod.starWeaken {α : Type} {f g : α → As} (hfg : ∀ x F w, (f x).sat F w → (g x).sat F w) {l : List α} (h : Mod B w0 (SL.star (l.map f) :: H) w) : Mod B w0 (SL.star (l.map g) :: H) w := by
  obtain ⟨F1, h1, h2, h3⟩ := h.sat
  exact ⟨h.below, h.low, F1, h1, sat_weaken hfg h2, h3⟩
end
end Go.Proofs.Ytghfoooldcbdnaa.SL
namespace Go.Proofs.Ytghfoooldcbdnaa
open Go.RowKit Go.Proofs.Ytghfoooldcbdnaa.SL Go.Proofs.YtghfoooldcbdnaaW.PrintWords
/-- A batch's records, whatever they are. -/
def Bt.wr (b : Bt) : As where
  sat F w := ∃ xs, (row (.slice b.A b.l.length b.c) 53 8 b.l.length xs).sat F w
  loc h hk := by
    obtain ⟨xs, h⟩ := h
    exact ⟨xs, As.loc _ h hk⟩
  up h hk := by
    obtain ⟨xs, h⟩ := h
    exact ⟨xs, As.up _ h hk⟩
section
variable {B : Nat} {w0 w : World} {H : List As} {b : Bt}
theorem Mod.openWr (h : SL.Mod B w0 (b.wr :: H) w) : ∃ xs, SL.Mod B w0 (row (.slice b.A b.l.length b.c) 53 8 b.l.length xs :: H) w := by
  obtain ⟨F1, h1, ⟨xs, h2⟩, h3⟩ := h.sat
  exact ⟨xs, h.below, h.low, F1, h1, h2, h3⟩
theorem Mod.closeWr {xs : List Value} (h : SL.Mod B w0 (row (.slice b.A b.l.length b.c) 53 8 b.l.length xs :: H) w) : SL.Mod B w0 (b.wr :: H) w := by
  obtain ⟨F1, h1, h2, h3⟩ := h.sat
  exact ⟨h.below, h.low, F1, h1, ⟨xs, h2⟩, h3⟩
theorem Mod.wrAll {L : List Bt} (h : SL.Mod B w0 (SL.star (L.map Bt.own) :: H) w) : SL.Mod B w0 (SL.star (L.map Bt.wr) :: H) w := Mod.starWeaken (f := Bt.own) (g := Bt.wr) (fun x F w hx => ⟨_, hx⟩) h
end
theorem bt_at {s : Int} : ∀ {bl : List Bt} {j : Nat} {b : Bt}, bl[j]? = some b → ∀ (o : Nat), o < 3 → (bts s bl)[j * 3 + o]? = (b.cells s)[o]?
  | [], _, _, h, _, _ => by simp at h
  | x :: l, 0, b, h, o, ho => by
    have e : x = b := by simpa using h
    subst e
    simp only [bts, List.flatMap_cons, Nat.zero_mul, Nat.zero_add]
    rw [List.getElem?_append_left (by rw [bt_len]; exact ho)]
  | x :: l, j + 1, b, h, o, ho => by
    have h1 := bt_at (s := s) (bl := l) (j := j) (b := b) (by simpa using h) o ho
    simp only [bts, List.flatMap_cons] at h1 ⊢
    rw [List.getElem?_append_right (by rw [bt_len]; omega), bt_len, show (j + 1) * 3 + o - 3 = j * 3 + o from by omega]
    exact h1
theorem own_add (g n : Nat) : (⟨g, 0, none⟩ : Addr).add n = ⟨g, n, none⟩ := by
  unfold Addr.add
  simp
  intro h
  exact h.symm
theorem row_base {B : Nat} {w0 w : World} {H R : List As} {ad : Addr} {n c : Nat} {e : TypeId} {sz : Nat} {xs : List Value} [hv : Row H (.slice (some ad) n c) e sz n xs R] (h : SL.Mod B w0 H w) : ∃ g, ad = ⟨g, 0, none⟩ := by
  obtain ⟨g, cs, rfl, _⟩ := Mod.openRow (h.pickRow (.slice (some ad) n c))
  exact ⟨g, rfl⟩
theorem bt_slice {B : Nat} {w0 w : World} {H R : List As} {g : Nat} {c n : Nat} {s : Int} {bl : List Bt} [hv : Row H (.slice (some ⟨g, 0, none⟩) n c) 61 3 n (bts s bl) R] (h : SL.Mod B w0 H w) {j : Nat} {b : Bt} (hb : bl[j]? = some b) : (Instr.loadAt 43 (.pointer (some ⟨g, j * 3 + 2, none⟩))).run Try.prog w = .ok (.slice b.A b.l.length b.c) w := by
  have h1 := load_one (P := Try.prog) (t := 43) (ownsRow_reads (h.rowOwn (.slice (some ⟨g, 0, none⟩) n c))).1 (j * 3 + 2) (v := .slice b.A b.l.length b.c) (bt_at hb 2 (by omega))
  rwa [own_add] at h1
theorem plain15m (s : Int) (bl : List Bt) (m : Nat) (hbm : bl.length = m) (A : Option Addr) (c : Nat) (hl : m ≤ 1000) (hb : ∀ b ∈ bl, b.l.length ≤ 64) (B : Nat) (w0 w : World) (H : List As) (hr : ∀ w, SL.Mod B w0 H w → Reads w A (bts s bl)) (hrb : ∀ b ∈ bl, ∀ w, SL.Mod B w0 H w → Reads w b.A (recs b.l)) (HM : SL.Mod B w0 H w) :
    Calls Try.prog 56 #[.slice A m c] w fun e w' => ∃ A' c' bl', e = .returned (.slice A' m c') ∧ bl'.map Bt.v = bl.map Bt.v ∧ SL.Mod B w0 (row (.slice A' m c') 32 3 m (bts s bl') :: SL.star (bl'.map Bt.sn) :: H) w' := by
  subst hbm
  exact plain15_calls s bl A c hl hb B w0 w H hr hrb HM
end Go.Proofs.Ytghfoooldcbdnaa
