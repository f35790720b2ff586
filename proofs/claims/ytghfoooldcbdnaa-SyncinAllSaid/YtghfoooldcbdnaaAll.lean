/-
  THE WALK OF THE LAW SyncinAll: whatever is told, it returns true, and nothing that was there turns.
-/
import Derived.Test.YtghfoooldcbdnaaRef16
import Derived.Test.YtghfoooldcbdnaaOrder
set_option linter.unusedVariables false
set_option linter.unusedSimpArgs false
namespace Go.Proofs.Ytghfoooldcbdnaa
open Go.RowKit Go.Proofs.Ytghfoooldcbdnaa.SL Go.Proofs.YtghfoooldcbdnaaW.PrintWords

theorem Take16_calls (r : R16) (s n : Int) (l : List Rec) (tk : List Bool) (A T R : Option Addr) (c ct cr : Nat) (hf : Fits l) (hm : l.length ≤ maxLen) (ht : tk.length ≤ maxLen) (hrl : r.refs.length ≤ 1000000) (hd0 : 0 ≤ r.d) (hd1 : r.d ≤ 1000000) (B : Nat) (w0 w : World) (H : List As)
    (hr : Base B w0 A (recs l)) (hT : Base B w0 T (bools tk)) (HM : Mod B w0 (row (.slice R r.refs.length cr) 36 1 r.refs.length (u64s r.refs) :: H) w) (o : Out16) (hO : r.take s n l (bitsUp (tells tk) l.length) = o) :
    Calls Try.prog 23 #[.agg #[.int .i64 r.s, .slice R r.refs.length cr, .int .i64 r.d], .agg #[.int .i64 s, .int .i64 n, .slice A l.length c], .slice T tk.length ct] w (Take16Post o B w0 H) := by
  subst hO
  cases hb : batchOk s n l with
  | false => exact Take16_no r s n l tk A T R c ct cr hf hm ht hrl hd0 hd1 B w0 w H hr hT HM hb _
  | true =>
    by_cases h1 : s = r.s
    · by_cases h2 : (r.refs.length : Int) + 1 < n
      · exact Take16_early r s n l tk A T R c ct cr hf hm ht hrl hd0 hd1 B w0 w H hr hT HM hb _ h1 h2
      · by_cases h3 : n ≤ r.refs.length
        · by_cases h4 : n ≤ (r.refs.length : Int) - 16
          · exact Take16_far r s n l tk A T R c ct cr hf hm ht hrl hd0 hd1 B w0 w H hr hT HM hb _ h1 h4
          · exact Take16_old r s n l tk A T R c ct cr hf hm ht hrl hd0 hd1 B w0 w H hr hT HM hb _ h1 h3 h4
        · exact Take16_next r s n l tk A T R c ct cr hf hm ht hrl hd0 hd1 B w0 w H hr hT HM hb h1 h2 h3
    · by_cases h2 : n = 1
      · exact Take16_new r s n l tk A T R c ct cr hf hm ht hrl hd0 hd1 B w0 w H hr hT HM hb h1 h2
      · exact Take16_gap r s n l tk A T R c ct cr hf hm ht hrl hd0 hd1 B w0 w H hr hT HM hb _ h1 h2

/-- The program's receiver and the document's, behind so many batches. -/
structure Sim (k : Nat) (r : RS) (q : R16) : Prop where
  s : r.s = q.s
  d : r.d = q.d
  l : r.l = q.refs.length
  len : q.refs.length ≤ k
  fs : ∀ j : Nat, j < q.refs.length → q.refs.length ≤ j + 16 → r.fs.getD ((j + 1) % 16) 0 = q.refs.getD j 0
theorem Sim.new : Sim 0 RS.new ⟨-1, [], 0⟩ := ⟨rfl, rfl, rfl, Nat.le_refl _, fun j h => by simp at h⟩
theorem Sim.known {k : Nat} {r : RS} {q : R16} (h : Sim k r q) (n : Int) (h1 : 1 ≤ n) (h2 : n ≤ q.refs.length) : r.known n = if n ≤ (q.refs.length : Int) - 16 then 18446744073709551615 else q.refs.getD (n - 1).toNat 0 := by
  unfold RS.known
  rw [h.l]
  by_cases hc : n ≤ (q.refs.length : Int) - 16
  · rw [if_pos hc, if_pos hc]
  · rw [if_neg hc, if_neg hc]
    have := h.fs (n - 1).toNat (by omega) (by omega)
    rw [← this]
    congr 1
    omega
theorem Sim.apply {k : Nat} {r : RS} {q : R16} (h : Sim k r q) (hf : r.fs.length = 16) (bits : Int) : Sim (k + 1) (r.apply (q.refs.length + 1 : Nat) bits) ⟨q.s, q.refs ++ [bits], q.d + 1⟩ := by
  have e1 : (((q.refs.length + 1 : Nat) : Int) % 16).toNat = (q.refs.length + 1) % 16 := by omega
  refine ⟨h.s, by show r.d + 1 = q.d + 1; rw [h.d], by show ((q.refs.length + 1 : Nat) : Int) = _; simp, by have := h.len; simp; omega, ?_⟩
  intro j hj hk
  rw [List.length_append, List.length_singleton] at hj hk
  show (r.fs.set (((q.refs.length + 1 : Nat) : Int) % 16).toNat bits).getD ((j + 1) % 16) 0 = (q.refs ++ [bits]).getD j 0
  rw [e1]
  by_cases hjl : j = q.refs.length
  · subst hjl
    rw [List.getD_eq_getElem?_getD, List.getD_eq_getElem?_getD, List.getElem?_set_self (by omega), List.getElem?_append_right (Nat.le_refl _)]
    simp
  · have := h.fs j (by omega) (by omega)
    rw [List.getD_eq_getElem?_getD, List.getD_eq_getElem?_getD, List.getElem?_set_ne (by omega), List.getElem?_append_left (by omega), ← List.getD_eq_getElem?_getD, ← List.getD_eq_getElem?_getD]
    exact this
theorem Sim.fresh {k : Nat} {r : RS} {q : R16} (h : Sim k r q) (s : Int) : Sim k (r.fresh s) ⟨s, [], q.d⟩ := ⟨rfl, h.d, rfl, by simp, fun j hj => by simp at hj⟩
theorem RS.apply_known (r : RS) (hf : r.fs.length = 16) (n bits : Int) (h1 : 1 ≤ n) : (r.apply n bits).known n = bits := by
  unfold RS.known
  rw [if_neg (by show ¬ n ≤ n - 16; omega)]
  show (r.fs.set (n % 16).toNat bits).getD (n % 16).toNat 0 = bits
  rw [List.getD_eq_getElem?_getD, List.getElem?_set_self (by omega)]
  rfl
/-- The two answers are one. -/
theorem Sim.take {k : Nat} {r : RS} {q : R16} (h : Sim k r q) (hf : r.fs.length = 16) (s n : Int) (l : List Rec) (bits : Int) :
    (q.take s n l bits).s = (r.take s n l bits).s ∧ (q.take s n l bits).n = (r.take s n l bits).n ∧ (q.take s n l bits).gap = (r.take s n l bits).gap ∧ (q.take s n l bits).ref = (r.take s n l bits).ref ∧
    (q.take s n l bits).is = (r.take s n l bits).is ∧ (q.take s n l bits).ap = (r.take s n l bits).ap ∧ Sim (k + 1) (r.take s n l bits).r (q.take s n l bits).r ∧ ((r.take s n l bits).ap = true → 0 < l.length) := by
  have hk : Sim (k + 1) r q := ⟨h.s, h.d, h.l, by have := h.len; omega, h.fs⟩
  by_cases hb : batchOk s n l = true
  · have hn := batchOk_n hb
    have hl0 : 0 < l.length := by
      simp only [batchOk, Bool.and_eq_true] at hb
      exact (headOk_spec hb.1).2.2.1
    by_cases h1 : s = r.s
    · have h1q : s = q.s := h1.trans h.s
      by_cases h2 : r.l + 1 < n
      · have h2q : (q.refs.length : Int) + 1 < n := by rw [← h.l]; exact h2
        simp only [RS.take, R16.take, if_pos hb, if_pos h1, if_pos h1q, if_pos h2, if_pos h2q]
        exact ⟨trivial, h.l.symm, trivial, trivial, trivial, trivial, hk, fun _ => hl0⟩
      · have h2q : ¬ (q.refs.length : Int) + 1 < n := by rw [← h.l]; exact h2
        by_cases h3 : n ≤ r.l
        · have h3q : n ≤ q.refs.length := by rw [← h.l]; exact h3
          simp only [RS.take, R16.take, if_pos hb, if_pos h1, if_pos h1q, if_neg h2, if_neg h2q, if_pos h3, if_pos h3q]
          exact ⟨trivial, trivial, trivial, (h.known n hn.1 h3q).symm, trivial, trivial, hk, fun _ => hl0⟩
        · have h3q : ¬ n ≤ q.refs.length := by rw [← h.l]; exact h3
          simp only [RS.take, R16.take, if_pos hb, if_pos h1, if_pos h1q, if_neg h2, if_neg h2q, if_neg h3, if_neg h3q]
          have hl := h.l
          obtain rfl : n = ((q.refs.length + 1 : Nat) : Int) := by omega
          exact ⟨trivial, trivial, trivial, (RS.apply_known r hf _ bits hn.1).symm, trivial, trivial, h.apply hf bits, fun _ => hl0⟩
    · have h1q : ¬ s = q.s := fun e => h1 (e.trans h.s.symm)
      by_cases h2 : n = 1
      · subst h2
        simp only [RS.take, R16.take, if_pos hb, if_neg h1, if_neg h1q, if_true]
        have h4 := (h.fresh s).apply (by simp [RS.fresh]) bits
        exact ⟨trivial, trivial, trivial, (RS.apply_known (r.fresh s) (by simp [RS.fresh]) _ bits hn.1).symm, trivial, trivial, h4, fun _ => hl0⟩
      · simp only [RS.take, R16.take, if_pos hb, if_neg h1, if_neg h1q, if_neg h2]
        exact ⟨trivial, trivial, trivial, trivial, trivial, trivial, hk, fun _ => hl0⟩
  · simp only [RS.take, R16.take, if_neg hb]
    exact ⟨trivial, trivial, trivial, trivial, trivial, trivial, hk, fun h => by cases h⟩
end Go.Proofs.Ytghfoooldcbdnaa
