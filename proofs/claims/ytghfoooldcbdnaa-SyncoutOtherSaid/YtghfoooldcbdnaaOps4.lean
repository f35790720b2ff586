/-
  A REGION THAT DRAWS ITS ORDER, WHERE TWO EFFECTS MAY COME IN EITHER ORDER: each order is walked.
-/
import Derived.Test.YtghfoooldcbdnaaOps3
set_option linter.unusedVariables false
set_option linter.unusedSimpArgs false
namespace Go.Proofs.Ytghfoooldcbdnaa.SL
open Go.RowKit Go.Proofs.YtghfoooldcbdnaaW.PrintWords Go.Proofs.YtghfoooldcbdnaaW.PrintLast
/-- A piece of reads alone, from l to l'. -/
def preOk (md : Region.Mode) (ops : Array Oper) (ds : List Nat) : List (Nat × Nat) → Array Bool → Array Bool → Bool
  | [], l, l' => l == l'
  | (i, k) :: p, l, l' => (match k with
    | 0 => Region.free md ops l i && (Region.ready md ops l).contains i && Region.closedB md ops l && Region.lastB md ops l ds i
    | 1 => Region.free md ops l i && (Region.ready md ops l).contains i
    | _ => false) && preOk md ops ds p (l.setIfInBounds i true) l'
section
variable {P : Program} {ops : Array Oper} {Q : Exit → Act → World → Prop} {S : World → Prop} {ds : List Nat}
theorem wpT_pre (hs : Region.noSelect ops = true) (hQ : ∀ c a d v w, Q (.panic c) (Act.put a d v) w → Q (.panic c) a w) (n : Nat) (l' : Array Bool) :
    ∀ (p : List (Nat × Nat)) (l : Array Bool) (a : Act) (w : World), preOk .any ops ds p l l' = true → wpT P ops (fun _ a w => wpAnyLast P .any ops Q S ds n l' a w) S p a w → wpAnyLast P .any ops Q S ds (p.length + n) l a w
  | [], l, a, w, hok, h => by
    have e : l = l' := by simpa [preOk] using hok
    subst e
    have h' : wpAnyLast P .any ops Q S ds n l a w := h
    rw [List.length_nil, Nat.zero_add]
    exact h'
  | (i, k) :: p, l, a, w, hok, h => by
    simp only [preOk, Bool.and_eq_true] at hok
    obtain ⟨h1, h2⟩ := hok
    simp only [wpT] at h
    rw [List.length_cons, show p.length + 1 + n = (p.length + n) + 1 from by omega]
    cases ho : ops[i]? with
    | none => rw [ho] at h; exact h.elim
    | some o =>
      rw [ho] at h
      match k, h1, h with
      | 0, h1, h =>
        simp only [Bool.and_eq_true] at h1
        obtain ⟨hS, v, hy, hk⟩ := h
        exact wpAnyLast_take ho hs h1.1.1.1 h1.1.1.2 h1.1.2 h1.2 (fun c a w => hQ c a _ _ w) hy hS (wpT_pre hs hQ n l' p _ _ _ h2 hk)
      | 1, h1, h =>
        simp only [Bool.and_eq_true] at h1
        obtain ⟨v, hy, hk⟩ := h
        exact wpAnyLast_any ho (Region.noSelect_spec hs) (fun c a w => hQ c a _ _ w) _ l a w (Region.free_spec ho h1.1) (by simpa using h1.2) hy (wpT_pre hs hQ n l' p _ _ _ h2 hk)
      | k + 2, h1, h => cases h1

variable {B : Nat} {w0 w : World} {H HS : List As} {a : Act}
/-- Reads ahead, then what n and l' say. -/
theorem pre_go (p : List (Nat × Nat)) (n : Nat) {l : Array Bool} (l' : Array Bool) {fuel : Nat} (hs : Region.noSelect ops = true) (hQ : ∀ c a d v w, Q (.panic c) (Act.put a d v) w → Q (.panic c) a w) (hn : fuel = p.length + n) (hok : preOk .any ops ds p l l' = true)
    (h : wpT P ops (fun _ a w => wpAnyLast P .any ops Q S ds n l' a w) S p a w) : wpAnyLast P .any ops Q S ds fuel l a w := by
  subst hn
  exact wpT_pre hs hQ n l' p l a w hok h
/-- From here on one order. -/
theorem lin_go (p : List (Nat × Nat)) {l : Array Bool} {fuel : Nat} (hs : Region.noSelect ops = true) (hQ : ∀ c a d v w, Q (.panic c) (Act.put a d v) w → Q (.panic c) a w) (hn : decide (p.length ≤ fuel) = true) (hok : okT .any ops ds p l = true)
    (h : wpT P ops Q S p a w) : wpAnyLast P .any ops Q S ds fuel l a w := wpT_sound hs hQ p fuel l a w (of_decide_eq_true hn) hok h
/-- Two effects, in either order. -/
theorem fork_go {i j : Nat} {o o' : Oper} {l : Array Bool} {fuel : Nat} (hr : (Region.ready .any ops l == [i, j] && !ds.contains i && !ds.contains j) = true) (ho : ops.toList[i]? = some o) (ho' : ops.toList[j]? = some o') (hw : Region.wanted o (yielded ops a.tmps) = true) (hw' : Region.wanted o' (yielded ops a.tmps) = true)
    (h1 : ∀ K : Act → World → Prop, (∀ a' w' H', Mod B w0 H' w' → Sub HS H' → wpAnyLast P .any ops Q (Mod B w0 HS) ds fuel (l.setIfInBounds i true) a' w' → K a' w') → o.wp P a w K Q)
    (h2 : ∀ K : Act → World → Prop, (∀ a' w' H', Mod B w0 H' w' → Sub HS H' → wpAnyLast P .any ops Q (Mod B w0 HS) ds fuel (l.setIfInBounds j true) a' w' → K a' w') → o'.wp P a w K Q) :
    wpAnyLast P .any ops Q (Mod B w0 HS) ds (fuel + 1) l a w := by
  have ho1 := (Array.getElem?_toList (xs := ops)).symm.trans ho
  have ho2 := (Array.getElem?_toList (xs := ops)).symm.trans ho'
  simp only [Bool.and_eq_true, beq_iff_eq, Bool.not_eq_true', List.contains_eq_mem, decide_eq_false_iff_not] at hr
  refine wpAnyLast_ready hr.1.1 (by simp) (AllReadyL.cons ho1 hr.1.2 (fun K' hK => ?_) (AllReadyL.cons ho2 hr.2 (fun K' hK => ?_) AllReadyL.nil))
  · rw [if_pos hw]
    exact h1 K' (fun a' w' H' hm hsub hh => hK.out a' w' (hm.sub (s := hsub)) (fun _ => hh))
  · rw [if_pos hw']
    exact h2 K' (fun a' w' H' hm hsub hh => hK.out a' w' (hm.sub (s := hsub)) (fun _ => hh))
/-- One effect, alone ready. -/
theorem one_go {i : Nat} {o : Oper} {l : Array Bool} {fuel : Nat} (hr : (Region.ready .any ops l == [i] && !ds.contains i) = true) (ho : ops.toList[i]? = some o) (hw : Region.wanted o (yielded ops a.tmps) = true)
    (h1 : ∀ K : Act → World → Prop, (∀ a' w' H', Mod B w0 H' w' → Sub HS H' → wpAnyLast P .any ops Q (Mod B w0 HS) ds fuel (l.setIfInBounds i true) a' w' → K a' w') → o.wp P a w K Q) :
    wpAnyLast P .any ops Q (Mod B w0 HS) ds (fuel + 1) l a w := by
  have ho1 := (Array.getElem?_toList (xs := ops)).symm.trans ho
  simp only [Bool.and_eq_true, beq_iff_eq, Bool.not_eq_true', List.contains_eq_mem, decide_eq_false_iff_not] at hr
  refine wpAnyLast_ready hr.1 (by simp) (AllReadyL.cons ho1 hr.2 (fun K' hK => ?_) AllReadyL.nil)
  rw [if_pos hw]
  exact h1 K' (fun a' w' H' hm hsub hh => hK.out a' w' (hm.sub (s := hsub)) (fun _ => hh))
/-- A region with forks. -/
theorem wp_forkS {id : Nat} (HM : Mod B w0 H w) (ds : List Nat) (hm : P.follows .mixedOrders = true) (h : ∀ w', Mod B w0 H w' → wpAnyLast P .any ops Q (Mod B w0 H) ds ops.size (Array.replicate ops.size false) a w') : (Code.region id ops true).wp P Q a w :=
  wp_region_last hm (h _ HM.drew)
/-- Bytes that are read, as a text, in a region that draws. -/
theorem t_textS {dst : Option Tmp} {ty : TypeId} {pos : String} {after : Array Edge} {gd : Option (Nat × Bool)} {i : Nat} {p : List (Nat × Nat)} (HM : Mod B w0 H w) {src u e : TypeId} {x : Tmp} {A : Option Addr} {c n : Nat} {xs : List Int}
    (hs : P.underlying src = some (.slice e)) (he : P.underlying e = some (.int .u8)) (hd : P.underlying u = some .string) (ho : ops.toList[i]? = some ⟨dst, .convert src u (.tmp x), ty, pos, after, gd⟩) (hw : Region.wanted ⟨dst, .convert src u (.tmp x), ty, pos, after, gd⟩ (yielded ops a.tmps) = true)
    (hx : a.tmps.toList[x]? = some (.slice A n c)) (hr : ∀ w', Mod B w0 HS w' → Reads w' A (xs.map (Value.int .u8))) (hn : xs.length = n) (hsub : Sub HS H)
    (k : wpT P ops Q (Mod B w0 HS) p (a.put dst (.string (strOfNums xs))) w) : wpT P ops Q (Mod B w0 HS) ((i, 0) :: p) a w := by
  subst hn
  exact t_pure0 HM ho hw hsub (fun w' h => run_textR hx (run_text hs he hd (hr w' h))) k
/-- What comes behind, walked once. -/
theorem share {T : Prop} {B : Nat} {w0 : World} (L : Nat → List As) {M : Nat → World → Prop} (h1 : (∀ g w', Mod B w0 (L g) w' → M g w') → T) (h2 : ∀ g w', Mod B w0 (L g) w' → M g w') : T := h1 h2
end
end Go.Proofs.Ytghfoooldcbdnaa.SL
