/-
  WHAT A CALL IS HANDED, SEEN AS LISTS: a number, a text, a struct's parts, a slice of any element that is seen so itself; each within the form's reach.
-/
import Derived.Test.YtghfoooldcbdnaaSep
import Derived.Deep.Slices
import Derived.ChangeArms
import Derived.SizedLaws
set_option linter.unusedVariables false
set_option linter.unusedSimpArgs false
namespace Go.Proofs.Ytghfoooldcbdnaa
open Go.RowKit Go.Deep Go.Proofs.Ytghfoooldcbdnaa.SL

/-- These cells are read, of this type, within reach. -/
def Tr {Hh : Type} (enc : TypeId × Value → Hh) (P : Program) (W : World) (t : TypeId) (cs : List Value) : Prop :=
  ∃ fuel d p, DataW.trod enc P W 0 (fun _ => true) true fuel t cs = some (d, p) ∧ ∀ n ∈ d.weights P t, n ≤ reachBytes

section
variable {Hh : Type} {enc : TypeId × Value → Hh} {P : Program} {W : World} {t e : TypeId} {cs : List Value}
theorem Tr.int {k : IntKind} (hu : P.underlying t = some (.int k)) (h : Tr enc P W t cs) : ∃ n, cs = [.int k n] ∧ (Lit.int k n).wf = true := by
  obtain ⟨fuel, d, p, h, _⟩ := h
  cases fuel with
  | zero => simp [DataW.trod] at h
  | succ n =>
    unfold DataW.trod at h
    rw [hu] at h
    split at h <;> simp_all
theorem Tr.bool (hu : P.underlying t = some .bool) (h : Tr enc P W t cs) : ∃ b, cs = [.bool b] := by
  obtain ⟨fuel, d, p, h, _⟩ := h
  cases fuel with
  | zero => simp [DataW.trod] at h
  | succ n =>
    unfold DataW.trod at h
    rw [hu] at h
    split at h <;> simp_all
theorem Tr.string (hu : P.underlying t = some .string) (h : Tr enc P W t cs) : ∃ s : ByteArray, cs = [.string s] ∧ s.size ≤ reachBytes := by
  obtain ⟨fuel, d, p, h, hw⟩ := h
  cases fuel with
  | zero => simp [DataW.trod] at h
  | succ n =>
    unfold DataW.trod at h
    rw [hu] at h
    split at h <;> simp_all
    obtain ⟨_, rfl, _⟩ := h
    simp [DataW.weights] at hw
    exact hw
theorem weights_each {ts : List TypeId} {ds : List (DataW Hh)} (h : ∀ n ∈ DataW.weightsEach P ts ds, n ≤ reachBytes) {i : Nat} {t : TypeId} {d : DataW Hh} (ht : ts[i]? = some t) (hd : ds[i]? = some d) : ∀ n ∈ d.weights P t, n ≤ reachBytes :=
  fun n hn => h n (DataW.weights_mem_each ht hd n hn)
theorem weights_all {e : TypeId} : ∀ {ds : List (DataW Hh)} {d : DataW Hh}, d ∈ ds → ∀ n ∈ d.weights P e, n ∈ DataW.weightsAll P e ds
  | d0 :: ds, d, hd, n, hn => by
    simp only [DataW.weightsAll, List.mem_append]
    rcases List.mem_cons.1 hd with rfl | hd
    · exact .inl hn
    · exact .inr (weights_all hd n hn)
theorem Tr.struct {fs : Array Field} (hu : P.underlying t = some (.struct fs)) (h : Tr enc P W t cs) : cs.length = P.cellsOf t ∧ ∀ (i : Nat) (f : Field), fs[i]? = some f → Tr enc P W f.type ((cs.drop f.offset).take (P.cellsOf f.type)) := by
  obtain ⟨fuel, d, p, h, hw⟩ := h
  obtain ⟨xs, n, rfl, hx, hl, hlen, hf⟩ := DataW.trod_struct hu h
  obtain ⟨rfl, rfl⟩ := Prod.mk.inj hx
  refine ⟨hl, fun i f hi => ?_⟩
  have h1 := hf i f hi
  have hlt : i < xs.length := by
    rw [hlen]
    exact (Array.getElem?_eq_some_iff.1 hi).1
  rw [List.getElem?_eq_getElem hlt] at h1
  refine ⟨n, xs[i].1, xs[i].2, h1, ?_⟩
  simp only [DataW.weights, hu] at hw
  refine weights_each hw (i := i) ?_ ?_
  · rw [List.getElem?_map, Array.getElem?_toList, hi]; rfl
  · rw [List.getElem?_map, List.getElem?_eq_getElem hlt]; rfl

theorem Tr.field {fs : Array Field} (h : ∀ (i : Nat) (f : Field), fs[i]? = some f → Tr enc P W f.type ((cs.drop f.offset).take (P.cellsOf f.type))) (i : Nat) {f : Field} (hi : fs[i]? = some f) {n : Nat} (hc : P.cellsOf f.type = n) : Tr enc P W f.type ((cs.drop f.offset).take n) := hc ▸ h i f hi
theorem at_of_flat {α β : Type} {el : α → List β} {sz : Nat} (hsz : ∀ x, (el x).length = sz) : ∀ (l : List α) (j : Nat) (u : β), (l.flatMap el)[j]? = some u → ∃ i r x, l[i]? = some x ∧ j = i * sz + r ∧ r < sz ∧ (el x)[r]? = some u
  | [], j, u, h => by simp at h
  | y :: l, j, u, h => by
    rw [List.flatMap_cons] at h
    by_cases hj : j < sz
    · rw [List.getElem?_append_left (by rw [hsz]; exact hj)] at h
      exact ⟨0, j, y, rfl, by simp, hj, h⟩
    · rw [List.getElem?_append_right (by rw [hsz]; omega), hsz] at h
      obtain ⟨i, r, x, h1, h2, h3, h4⟩ := at_of_flat hsz l (j - sz) u h
      exact ⟨i + 1, r, x, by simpa using h1, by rw [Nat.succ_mul]; omega, h3, h4⟩

/-- A slice, element by element. -/
theorem Tr.list {α : Type} {el : α → List Value} {Q : α → Prop} {sz bytes : Nat} (hu : P.underlying t = some (.slice e)) (hsz : P.cellsOf e = sz) (hel : ∀ x, (el x).length = sz) (hby : P.bytesOf e = bytes)
    (dec : ∀ ecs, Tr enc P W e ecs → ∃ x, ecs = el x ∧ Q x) (h : Tr enc P W t cs) :
    ∃ (A : Option Addr) (l : List α) (c : Nat), cs = [.slice A l.length c] ∧ Reads W A (l.flatMap el) ∧ (∀ x ∈ l, Q x) ∧ l.length * bytes ≤ reachBytes ∧ l.length ≤ maxLen := by
  obtain ⟨fuel, d, p, h, hw⟩ := h
  rcases open_slice hu h with ⟨rfl, hx⟩ | ⟨a, len, cap, m, n, D, Pl, rfl, _, hlc, hcm, hm, hx, hop⟩
  · exact ⟨none, [], 0, rfl, Reads.nil _ _, by simp, by simp, by simp⟩
  · rw [if_pos rfl] at hm
    subst hm
    obtain ⟨rfl, rfl⟩ := Prod.mk.inj hx
    simp only [DataW.weights, hu, List.mem_cons, List.mem_append, List.length_map, List.length_range] at hw
    have hwt := hw _ (.inl rfl)
    have hchoose : ∀ i, ∃ x : Option α, i < len → ∃ y, x = some y ∧ Q y ∧ W.cells? 0 (a.add (i * P.cellsOf e)) (P.cellsOf e) = some (el y) := by
      intro i
      by_cases hi : i < len
      · obtain ⟨ecs, h1, h2⟩ := hop i (by omega)
        obtain ⟨x, rfl, hq⟩ := dec ecs ⟨_, _, _, h2, fun k hk => hw k (.inr (.inl (weights_all (by rw [List.mem_map]; exact ⟨i, by simpa using hi, rfl⟩) k hk)))⟩
        exact ⟨some x, fun _ => ⟨x, rfl, hq, h1⟩⟩
      · exact ⟨none, fun h => absurd h hi⟩
    have hl : ∀ k, k ≤ len → ∃ l : List α, l.length = k ∧ (∀ x ∈ l, Q x) ∧ ∀ i x, l[i]? = some x → W.cells? 0 (a.add (i * P.cellsOf e)) (P.cellsOf e) = some (el x) := by
      intro k
      induction k with
      | zero => exact fun _ => ⟨[], rfl, by simp, by simp⟩
      | succ k ih =>
        intro hk
        obtain ⟨l, h1, h2, h3⟩ := ih (by omega)
        obtain ⟨x, hx⟩ := hchoose k
        obtain ⟨y, rfl, hq, hc⟩ := hx (by omega)
        refine ⟨l ++ [y], by simp [h1], ?_, ?_⟩
        · intro z hz
          rcases List.mem_append.1 hz with hz | hz
          · exact h2 z hz
          · have : z = y := by simpa using hz
            exact this ▸ hq
        · intro i z hz
          by_cases hi : i < l.length
          · rw [List.getElem?_append_left hi] at hz
            exact h3 i z hz
          · rw [List.getElem?_append_right (by omega)] at hz
            have hi0 : i - l.length = 0 := by
              cases hd : i - l.length with
              | zero => rfl
              | succ q => rw [hd] at hz; simp at hz
            rw [hi0] at hz
            have : z = y := by simpa using hz.symm
            subst this
            have : i = k := by omega
            rw [this]
            exact hc
    obtain ⟨l, h1, h2, h3⟩ := hl len (Nat.le_refl _)
    refine ⟨some a, l, m, by rw [h1], ?_, h2, ?_, by rw [h1]; omega⟩
    · intro j u hu
      obtain ⟨i, r, x, k1, k2, k3, k4⟩ := at_of_flat hel l j u hu
      refine ⟨a, rfl, ?_⟩
      have k5 := (World.cells?_some (h3 i x k1)).2.2 r (by rw [hsz]; exact k3)
      rw [k4, add_add'] at k5
      rw [k2, ← hsz]
      exact k5
    · rw [h1]
      refine Nat.le_trans ?_ hwt
      rw [hby]
      exact Nat.mul_le_mul_right _ (by omega)
theorem tr_of {ts : List TypeId} {ds : List (DataW Hh)} (hsz : (DataW.weightsEach P ts ds).all (· ≤ reachBytes) = true) {j : Nat} {v : Value} {d : DataW Hh} {p : List MemPlace} (ht : ts[j]? = some t) (hd : ds[j]? = some d)
    (h : DataW.Trod enc P W 0 (fun _ => true) true t v d p) : Tr enc P W t v.cells.toList := by
  obtain ⟨fuel, hf⟩ := h
  exact ⟨fuel, d, p, hf, fun n hn => by simpa using List.all_eq_true.1 hsz n (DataW.weights_mem_each ht hd n hn)⟩
end
end Go.Proofs.Ytghfoooldcbdnaa
