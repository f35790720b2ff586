/-
  THE PLAIN LAW OF LAYER 14: what the program's reading, and the document's, make of bytes: just the batches whose bytes they are.
-/
import Derived.Test.YtghfoooldcbdnaaDecM
import Derived.Test.YtghfoooldcbdnaaRefE
set_option linter.unusedVariables false
set_option linter.unusedSimpArgs false
namespace Go.Proofs.Ytghfoooldcbdnaa
open Go.RowKit Go.Proofs.Ytghfoooldcbdnaa.SL Go.Proofs.YtghfoooldcbdnaaW.PrintWords

/-! ### numbers and their bytes -/
theorem foldB_acc : ∀ (l : List Int) (a : Int), l.foldl (fun n x => n * 256 + x) a = a * 256 ^ l.length + valB l
  | [], a => by simp [valB]
  | x :: l, a => by
    have h1 := foldB_acc l (a * 256 + x)
    have h2 := foldB_acc l (0 * 256 + x)
    have h3 : valB (x :: l) = l.foldl (fun n x => n * 256 + x) (0 * 256 + x) := rfl
    rw [List.foldl_cons, h1, h3, h2, List.length_cons, Int.pow_succ]
    have e1 : (a * 256 + x) * 256 ^ l.length = a * (256 ^ l.length * 256) + x * 256 ^ l.length := by rw [Int.add_mul, Int.mul_assoc, Int.mul_comm 256]
    rw [e1, Int.zero_mul, Int.zero_add]
    omega
theorem valB_cons (x : Int) (l : List Int) : valB (x :: l) = x * 256 ^ l.length + valB l := by
  have := foldB_acc l (0 * 256 + x)
  have h3 : valB (x :: l) = l.foldl (fun n x => n * 256 + x) (0 * 256 + x) := rfl
  rw [h3, this]
  simp
theorem pow_256 (k : Nat) : (2 : Int) ^ (8 * k) = 256 ^ k := by rw [Int.pow_mul]; rfl
theorem beB_add (k : Nat) (n m : Int) (hm : ∃ q, m = n + q * 256 ^ k) : beB k m = beB k n := by
  obtain ⟨q, rfl⟩ := hm
  induction k generalizing q with
  | zero => rfl
  | succ k ih =>
    have h1 := ih (q * 256)
    rw [Int.mul_assoc, Int.mul_comm 256, ← Int.pow_succ] at h1
    simp only [beB]
    rw [h1, pow_256]
    congr 1
    have hp : (256 : Int) ^ k ≠ 0 := by have := Int.pow_pos (n := 256) (m := k) (by decide); omega
    rw [Int.pow_succ, Int.mul_comm (256 ^ k) 256, ← Int.mul_assoc, Int.add_mul_ediv_right _ _ hp, Int.add_mul_emod_self_right]
theorem beB_val : ∀ (l : List Int), (∀ x ∈ l, 0 ≤ x ∧ x < 256) → beB l.length (valB l) = l
  | [], _ => rfl
  | x :: l, h => by
    have h1 := beB_val l (fun y hy => h y (List.mem_cons_of_mem _ hy))
    have h2 := h x (by simp)
    have h3 := valB_range l (fun y hy => h y (List.mem_cons_of_mem _ hy))
    rw [valB_cons, List.length_cons]
    simp only [beB]
    rw [beB_add l.length (valB l) _ ⟨x, by omega⟩, h1, pow_256]
    congr 1
    have hp : (256 : Int) ^ l.length ≠ 0 := by have := Int.pow_pos (n := 256) (m := l.length) (by decide); omega
    rw [Int.add_comm, Int.add_mul_ediv_right _ _ hp, Int.ediv_eq_zero_of_lt h3.1 h3.2]
    omega
theorem val_beB : ∀ (k : Nat) (n : Int), 0 ≤ n → n < 256 ^ k → valB (beB k n) = n
  | 0, n, h0, h1 => by
    have : n = 0 := by simp at h1; omega
    subst this; rfl
  | k + 1, n, h0, h1 => by
    have hp : (0 : Int) < 256 ^ k := Int.pow_pos (by decide)
    have h2 : n % 256 ^ k < 256 ^ k := Int.emod_lt_of_pos _ hp
    have h3 : 0 ≤ n % 256 ^ k := Int.emod_nonneg _ (by omega)
    have h4 := val_beB k (n % 256 ^ k) h3 h2
    have h5 : n = n % 256 ^ k + n / 256 ^ k * 256 ^ k := by have := Int.emod_add_mul_ediv n (256 ^ k); rw [Int.mul_comm] at this; omega
    have h6 := beB_add k (n % 256 ^ k) n ⟨_, h5⟩
    have h7 : n / 256 ^ k < 256 := by rw [Int.pow_succ, Int.mul_comm] at h1; exact Int.ediv_lt_of_lt_mul hp h1
    have h8 : 0 ≤ n / 256 ^ k := Int.ediv_nonneg h0 (by omega)
    simp only [beB]
    rw [valB_cons, beB_len, h6, h4, pow_256, Int.emod_eq_of_lt h8 h7]
    omega
theorem num_beB (k : Nat) (n : Int) (h0 : 0 ≤ n) (h1 : n < 256 ^ k) (h2 : n ≤ 4611686018427387904) : numB (beB k n) = n := by
  unfold numB
  rw [val_beB k n h0 h1, if_neg (by omega)]
theorem beB_num {l : List Int} (h : ∀ x ∈ l, 0 ≤ x ∧ x < 256) (h0 : 0 ≤ numB l) : beB l.length (numB l) = l := by
  have h1 : numB l = valB l := by
    unfold numB at h0 ⊢
    split
    · rename_i hc; rw [if_pos hc] at h0; omega
    · rfl
  rw [h1, beB_val l h]

/-! ### taking -/
theorem tk_app {a b : List Int} {n : Nat} (h : a.length = n) (sh : Bool) : Fd.y (a ++ b, sh) n = a ∧ Fd.nx (a ++ b, sh) n = (b, sh) := by
  subst h
  have h1 : ¬ (a ++ b).length < a.length := by rw [List.length_append]; omega
  unfold Fd.y Fd.nx tkY tkR tkS
  refine ⟨?_, ?_⟩
  · show (if (a ++ b).length < a.length then _ else _) = _
    rw [if_neg h1]; simp
  · show ((if (a ++ b).length < a.length then _ else _), _) = _
    rw [if_neg h1, decide_eq_false h1]; simp
theorem tk_back {f : Fd} {n : Nat} (h : (f.nx n).2 = false) : f.2 = false ∧ f.1 = f.y n ++ (f.nx n).1 ∧ (f.y n).length = n := by
  have h' : (f.2 || decide (f.1.length < n)) = false := h
  rw [Bool.or_eq_false_iff, decide_eq_false_iff_not] at h'
  refine ⟨h'.1, ?_, tkY_len _ _⟩
  show f.1 = tkY f.1 n ++ tkR f.1 n
  unfold tkY tkR
  rw [if_neg h'.2, if_neg h'.2, List.take_append_drop]
theorem tk_byt {f : Fd} (h : Byt f.1) (n : Nat) : Byt (f.y n) ∧ Byt (f.nx n).1 := ⟨byt_take h n, byt_drop h n⟩
theorem numB_lit (x : Int) (h0 : 0 ≤ x) (h1 : x ≤ 4611686018427387904) : numB [x] = x := by
  unfold numB
  have : valB [x] = x := by simp [valB]
  rw [this, if_neg (by omega)]
theorem recB_in {r : Rec} (h : r.ok = true) (rest : List Int) : recB r ++ rest = [r.pr] ++ ([(r.fr.size : Int)] ++ (bytesOf r.fr ++ (bytesOf r.tt ++ (beB 2 r.po ++ (beB 2 r.de ++ ([r.ba] ++ ([r.st] ++ (beB 2 r.le ++ rest)))))))) := by
  have := rec_all h
  have e1 : r.pr % 256 = r.pr := by omega
  have e2 : (r.fr.size : Int) % 256 = r.fr.size := by omega
  have e3 : r.ba % 256 = r.ba := by omega
  have e4 : r.st % 256 = r.st := by omega
  unfold recB
  rw [e1, e2, e3, e4]
  simp
theorem pRec_print {r : Rec} (h : r.ok = true) (rest : List Int) (sh : Bool) : pRec (recB r ++ rest, sh) = (r, (rest, sh)) := by
  obtain ⟨⟨p0, p1⟩, hs, ht, ⟨o0, o1⟩, ⟨d0, d1⟩, ⟨b0, b1⟩, ⟨s0, s1⟩, ⟨l0, l1⟩⟩ := rec_all h
  rw [recB_in h]
  unfold pRec
  have k0 := fun b => tk_app (a := [r.pr]) (b := b) (n := 1) rfl sh
  have k1 := fun b => tk_app (a := [(r.fr.size : Int)]) (b := b) (n := 1) rfl sh
  have k2 := fun b => tk_app (a := bytesOf r.fr) (b := b) (n := r.fr.size) (bytesOf_length _) sh
  have k3 := fun b => tk_app (a := bytesOf r.tt) (b := b) (n := r.fr.size) (by rw [bytesOf_length, ht]) sh
  have k4 := fun b => tk_app (a := beB 2 r.po) (b := b) (n := 2) (beB_len _ _) sh
  have k5 := fun b => tk_app (a := beB 2 r.de) (b := b) (n := 2) (beB_len _ _) sh
  have k6 := fun b => tk_app (a := [r.ba]) (b := b) (n := 1) rfl sh
  have k7 := fun b => tk_app (a := [r.st]) (b := b) (n := 1) rfl sh
  have k8 := fun b => tk_app (a := beB 2 r.le) (b := b) (n := 2) (beB_len _ _) sh
  have n1 : (numB [(r.fr.size : Int)]).toNat = r.fr.size := by rw [numB_lit _ (by omega) (by omega)]; omega
  have n4 : numB (beB 2 r.po) = r.po := num_beB 2 _ o0 (Int.lt_of_le_of_lt o1 (by decide)) (by omega)
  have n5 : numB (beB 2 r.de) = r.de := num_beB 2 _ d0 (Int.lt_of_le_of_lt d1 (by decide)) (by omega)
  have n8 : numB (beB 2 r.le) = r.le := num_beB 2 _ l0 (Int.lt_of_le_of_lt l1 (by decide)) (by omega)
  simp only [(k0 _).1, (k0 _).2, (k1 _).1, (k1 _).2, n1, (k2 _).1, (k2 _).2, (k3 _).1, (k3 _).2, (k4 _).1, (k4 _).2, (k5 _).1, (k5 _).2, (k6 _).1, (k6 _).2, (k7 _).1, (k7 _).2, (k8 _).1, (k8 _).2, n4, n5, n8, ← str_of, numB_lit r.pr p0 (by omega), numB_lit r.ba b0 (by omega), numB_lit r.st (by omega) (by omega)]
theorem one_of {f : Fd} (hb : Byt f.1) (h0 : 0 ≤ numB (f.y 1)) : [numB (f.y 1) % 256] = f.y 1 := by
  have := beB_num (tk_byt hb 1).1 h0
  rw [show (f.y 1).length = 1 from tkY_len _ _, beB_one] at this
  exact this
theorem two_of {f : Fd} (hb : Byt f.1) (h0 : 0 ≤ numB (f.y 2)) : beB 2 (numB (f.y 2)) = f.y 2 := by
  have := beB_num (tk_byt hb 2).1 h0
  rw [show (f.y 2).length = 2 from tkY_len _ _] at this
  exact this
theorem pRec_parse {f : Fd} (hb : Byt f.1) (hok : (pRec f).1.ok = true) (hs : (pRec f).2.2 = false) : f.2 = false ∧ f.1 = recB (pRec f).1 ++ (pRec f).2.1 ∧ Byt (pRec f).2.1 := by
  obtain ⟨f1, e1⟩ : ∃ g, g = f.nx 1 := ⟨_, rfl⟩
  obtain ⟨n, en⟩ : ∃ n, n = (numB (f1.y 1)).toNat := ⟨_, rfl⟩
  obtain ⟨f2, e2⟩ : ∃ g, g = f1.nx 1 := ⟨_, rfl⟩
  obtain ⟨f3, e3⟩ : ∃ g, g = f2.nx n := ⟨_, rfl⟩
  obtain ⟨f4, e4⟩ : ∃ g, g = f3.nx n := ⟨_, rfl⟩
  obtain ⟨f5, e5⟩ : ∃ g, g = f4.nx 2 := ⟨_, rfl⟩
  obtain ⟨f6, e6⟩ : ∃ g, g = f5.nx 2 := ⟨_, rfl⟩
  obtain ⟨f7, e7⟩ : ∃ g, g = f6.nx 1 := ⟨_, rfl⟩
  obtain ⟨f8, e8⟩ : ∃ g, g = f7.nx 1 := ⟨_, rfl⟩
  obtain ⟨f9, e9⟩ : ∃ g, g = f8.nx 2 := ⟨_, rfl⟩
  have hp : pRec f = (⟨numB (f.y 1), strOfNums (f2.y n), strOfNums (f3.y n), numB (f4.y 2), numB (f5.y 2), numB (f6.y 1), numB (f7.y 1), numB (f8.y 2)⟩, f9) := by
    simp only [pRec, ← e1, ← en, ← e2, ← e3, ← e4, ← e5, ← e6, ← e7, ← e8, ← e9]
  rw [hp] at hok hs ⊢
  obtain ⟨⟨p0, p1⟩, hsz, ht, ⟨o0, o1⟩, ⟨d0, d1⟩, ⟨b0, b1⟩, ⟨s0, s1⟩, ⟨l0, l1⟩⟩ := rec_all hok
  dsimp only at p0 p1 hsz ht o0 o1 d0 d1 b0 b1 s0 s1 l0 l1 hs ⊢
  have B1 : Byt f1.1 := by rw [e1]; exact (tk_byt hb 1).2
  have B2 : Byt f2.1 := by rw [e2]; exact (tk_byt B1 1).2
  have B3 : Byt f3.1 := by rw [e3]; exact (tk_byt B2 n).2
  have B4 : Byt f4.1 := by rw [e4]; exact (tk_byt B3 n).2
  have B5 : Byt f5.1 := by rw [e5]; exact (tk_byt B4 2).2
  have B6 : Byt f6.1 := by rw [e6]; exact (tk_byt B5 2).2
  have B7 : Byt f7.1 := by rw [e7]; exact (tk_byt B6 1).2
  have B8 : Byt f8.1 := by rw [e8]; exact (tk_byt B7 1).2
  have B9 : Byt f9.1 := by rw [e9]; exact (tk_byt B8 2).2
  rw [e9] at hs
  obtain ⟨q8, r8, _⟩ := tk_back hs
  rw [e8] at q8
  obtain ⟨q7, r7, _⟩ := tk_back q8
  rw [e7] at q7
  obtain ⟨q6, r6, _⟩ := tk_back q7
  rw [e6] at q6
  obtain ⟨q5, r5, _⟩ := tk_back q6
  rw [e5] at q5
  obtain ⟨q4, r4, _⟩ := tk_back q5
  rw [e4] at q4
  obtain ⟨q3, r3, z3⟩ := tk_back q4
  rw [e3] at q3
  obtain ⟨q2, r2, z2⟩ := tk_back q3
  rw [e2] at q2
  obtain ⟨q1, r1, _⟩ := tk_back q2
  rw [e1] at q1
  obtain ⟨q0, r0, _⟩ := tk_back q1
  rw [← e9] at r8
  rw [← e8] at r7
  rw [← e7] at r6
  rw [← e6] at r5
  rw [← e5] at r4
  rw [← e4] at r3
  rw [← e3] at r2
  rw [← e2] at r1
  rw [← e1] at r0
  refine ⟨q0, ?_, B9⟩
  have n0 : 0 ≤ numB (f1.y 1) := by
    obtain ⟨m, h1, _⟩ := numB_one (f1.y 1) (tkY_len _ _) (tk_byt B1 1).1
    omega
  have hsize : ((strOfNums (f2.y n)).size : Int) % 256 = numB (f1.y 1) % 256 := by
    rw [strOfNums_size, z2, en]; omega
  have er : recB ⟨numB (f.y 1), strOfNums (f2.y n), strOfNums (f3.y n), numB (f4.y 2), numB (f5.y 2), numB (f6.y 1), numB (f7.y 1), numB (f8.y 2)⟩ = f.y 1 ++ (f1.y 1 ++ (f2.y n ++ (f3.y n ++ (f4.y 2 ++ (f5.y 2 ++ (f6.y 1 ++ (f7.y 1 ++ f8.y 2))))))) := by
    have w0 := one_of hb p0
    have w1 := one_of B1 n0
    have w4 := two_of B4 o0
    have w5 := two_of B5 d0
    have w6 := one_of B6 b0
    have w7 := one_of B7 (by omega)
    have w8 := two_of B8 l0
    unfold recB
    dsimp only
    rw [hsize, w4, w5, w8, (tk_byt B2 n).1.back, (tk_byt B3 n).1.back]
    rw [show [numB (f.y 1) % 256, numB (f1.y 1) % 256] = [numB (f.y 1) % 256] ++ [numB (f1.y 1) % 256] from rfl, show [numB (f6.y 1) % 256, numB (f7.y 1) % 256] = [numB (f6.y 1) % 256] ++ [numB (f7.y 1) % 256] from rfl, w0, w1, w6, w7]
    simp only [List.append_assoc]
  rw [er]
  simp only [List.append_assoc]
  rw [← r8, ← r7, ← r6, ← r5, ← r4, ← r3, ← r2, ← r1, ← r0]

/-! ### rows of records -/
theorem pRecs_print (rest : List Int) (sh : Bool) (l : List Rec) (h : l.all Rec.ok = true) : ∀ k, k ≤ l.length → pRecs k (l.flatMap recB ++ rest, sh) = (l.take k, ((l.drop k).flatMap recB ++ rest, sh))
  | 0, _ => by simp [pRecs]
  | k + 1, hk => by
    have h1 := pRecs_print rest sh l h k (by omega)
    have hd : l.drop k = l[k] :: l.drop (k + 1) := List.drop_eq_getElem_cons (by omega)
    have hok : l[k].ok = true := List.all_eq_true.1 h _ (List.getElem_mem _)
    have h2 := pRec_print hok ((l.drop (k + 1)).flatMap recB ++ rest) sh
    rw [← List.append_assoc] at h2
    simp only [pRecs, h1]
    rw [hd, List.flatMap_cons, h2, List.take_add_one, List.getElem?_eq_getElem (by omega)]
    rfl
theorem pRecs_succ (k : Nat) (f : Fd) : pRecs (k + 1) f = ((pRecs k f).1 ++ [(pRec (pRecs k f).2).1], (pRec (pRecs k f).2).2) := rfl
theorem pRecs_parse (f : Fd) (hb : Byt f.1) (k : Nat) : (pRecs k f).1.all Rec.ok = true → (pRecs k f).2.2 = false → f.2 = false ∧ f.1 = (pRecs k f).1.flatMap recB ++ (pRecs k f).2.1 := by
  induction k with
  | zero =>
    intro _ h
    have e : pRecs 0 f = ([], f) := rfl
    rw [e] at h ⊢
    exact ⟨h, by simp⟩
  | succ k ih =>
    intro hok hs
    have hb2 : Byt (pRecs k f).2.1 := (pRecs_fits f k hb).2
    rw [pRecs_succ] at hok hs ⊢
    generalize pRecs k f = p at ih hb2 hok hs ⊢
    dsimp only at hok hs ⊢
    rw [List.all_append, Bool.and_eq_true] at hok
    have hok2 : (pRec p.2).1.ok = true := by simpa using hok.2
    obtain ⟨h1, h2, _⟩ := pRec_parse hb2 hok2 hs
    obtain ⟨h3, h4⟩ := ih hok.1 h1
    refine ⟨h3, ?_⟩
    rw [h4, List.flatMap_append, List.flatMap_cons, List.flatMap_nil, List.append_nil, List.append_assoc, ← h2]

/-! ### batches -/
theorem batch_facts {s n : Int} {l : List Rec} (h : batchOk s n l = true) : (0 ≤ s ∧ s ≤ 4611686018427387904) ∧ (1 ≤ n ∧ n ≤ 4611686018427387904) ∧ 1 ≤ l.length ∧ l.length ≤ 64 ∧ l.all Rec.ok = true ∧ (batchB s n l).length ≤ 1400 := by
  rw [batchOk_ref] at h
  simp only [refHead, inB, Bool.and_eq_true, decide_eq_true_eq] at h
  refine ⟨h.1.1.1.1.1, h.1.1.1.1.2, h.1.1.1.2, h.1.1.2, h.1.2, ?_⟩
  rw [batchB, List.length_append, headB_len]
  exact h.2
theorem batchB_in (s n : Int) {l : List Rec} (h : l.length ≤ 64) : batchB s n l = [83, 1] ++ (beB 8 s ++ (beB 8 n ++ ([(l.length : Int)] ++ (l.flatMap recB ++ [])))) := by
  have e : (l.length : Int) % 256 = l.length := by omega
  unfold batchB headB
  rw [e]
  simp
theorem big_lt {s : Int} (h : s ≤ 4611686018427387904) : s < 256 ^ 8 := Int.lt_of_le_of_lt h (by decide)
/-- The program reads just the batches. -/
theorem pdec_iff (xs : List Int) (hb : Byt xs) (s n : Int) (l : List Rec) : pdec xs = some (s, n, l) ↔ batchOk s n l = true ∧ batchB s n l = xs := by
  constructor
  · intro h
    unfold pdec at h
    split at h
    · cases h
    · rename_i hc
      simp only [not_or, Decidable.not_not] at hc
      obtain ⟨c0, c1, c2, c3⟩ := hc
      obtain ⟨f0, e0⟩ : ∃ g : Fd, g = (xs.drop 2, false) := ⟨_, rfl⟩
      obtain ⟨f1, e1⟩ : ∃ g, g = f0.nx 8 := ⟨_, rfl⟩
      obtain ⟨f2, e2⟩ : ∃ g, g = f1.nx 8 := ⟨_, rfl⟩
      obtain ⟨f3, e3⟩ : ∃ g, g = f2.nx 1 := ⟨_, rfl⟩
      simp only [← e0, ← e1, ← e2, ← e3] at h
      split at h
      · cases h
      · rename_i hk
        simp only [Option.some.injEq, Prod.mk.injEq] at h
        obtain ⟨rfl, rfl, rfl⟩ := h
        rw [Bool.or_eq_true, not_or, Bool.or_eq_true, not_or, Bool.not_eq_true, Bool.not_eq_true', Bool.not_eq_false, Bool.not_eq_true', Bool.not_eq_false] at hk
        obtain ⟨⟨hs, he⟩, hok⟩ := hk
        obtain ⟨⟨s0, s1⟩, ⟨n0, n1⟩, l1, l64, hall, _⟩ := batch_facts hok
        have B0 : Byt f0.1 := by rw [e0]; exact fun x hx => hb x (List.mem_of_mem_drop hx)
        have B1 : Byt f1.1 := by rw [e1]; exact (tk_byt B0 8).2
        have B2 : Byt f2.1 := by rw [e2]; exact (tk_byt B1 8).2
        have B3 : Byt f3.1 := by rw [e3]; exact (tk_byt B2 1).2
        obtain ⟨q3, r3⟩ := pRecs_parse f3 B3 _ hall hs
        rw [e3] at q3
        obtain ⟨q2, r2, _⟩ := tk_back q3
        rw [e2] at q2
        obtain ⟨q1, r1, _⟩ := tk_back q2
        rw [e1] at q1
        obtain ⟨q0, r0, _⟩ := tk_back q1
        rw [← e3] at r2
        rw [← e2] at r1
        rw [← e1] at r0
        refine ⟨hok, ?_⟩
        have he' := List.isEmpty_iff.1 he
        rw [he'] at r3
        have w0 := beB_num (tk_byt B0 8).1 s0
        rw [show (f0.y 8).length = 8 from tkY_len _ _] at w0
        have w1 := beB_num (tk_byt B1 8).1 (Int.le_trans (by decide) n0)
        rw [show (f1.y 8).length = 8 from tkY_len _ _] at w1
        obtain ⟨m, k1, k2⟩ := numB_one (f2.y 1) (tkY_len _ _) (tk_byt B2 1).1
        have w2 := one_of B2 (by rw [k1]; omega)
        have hl := pRecs_len f3 (numB (f2.y 1)).toNat
        have hl2 : ((pRecs (numB (f2.y 1)).toNat f3).1.length : Int) = numB (f2.y 1) % 256 := by rw [hl, k1]; omega
        rw [batchB_in _ _ l64, w0, w1, hl2, w2, ← r3, ← r2, ← r1, ← r0, e0]
        have x2 : xs = [xs.getD 0 0, xs.getD 1 0] ++ xs.drop 2 := by
          match xs, c0 with
          | a :: b :: t, _ => rfl
          | [a], h => simp at h
          | [], h => simp at h
        rw [c2, c3] at x2
        exact x2.symm
  · rintro ⟨hok, rfl⟩
    obtain ⟨⟨s0, s1⟩, ⟨n0, n1⟩, l1, l64, hall, hlen⟩ := batch_facts hok
    have hlen2 : 19 ≤ (batchB s n l).length := by rw [batchB, List.length_append, headB_len]; omega
    have hin := batchB_in s n l64
    unfold pdec
    rw [if_neg (by
      rintro (h | h | h | h)
      · omega
      · omega
      · exact h (by rw [hin]; rfl)
      · exact h (by rw [hin]; rfl))]
    have e0 : (batchB s n l).drop 2 = beB 8 s ++ (beB 8 n ++ ([(l.length : Int)] ++ (l.flatMap recB ++ []))) := by rw [hin]; rfl
    have t0 := fun b => tk_app (a := beB 8 s) (b := b) (n := 8) (beB_len _ _) false
    have t1 := fun b => tk_app (a := beB 8 n) (b := b) (n := 8) (beB_len _ _) false
    have t2 := fun b => tk_app (a := [(l.length : Int)]) (b := b) (n := 1) rfl false
    have v0 := num_beB 8 s s0 (big_lt s1) s1
    have v1 := num_beB 8 n (by omega) (big_lt n1) n1
    have v2 : (numB [(l.length : Int)]).toNat = l.length := by rw [numB_lit _ (by omega) (by omega)]; omega
    have hp := pRecs_print [] false l hall l.length (Nat.le_refl _)
    rw [List.take_length, List.drop_length] at hp
    simp only [e0, (t0 _).1, (t0 _).2, (t1 _).1, (t1 _).2, (t2 _).1, (t2 _).2, v0, v1, v2, hp, hok]
    rfl

/-! ### the document's reading -/
def rRec (r : List Int) : Option (Rec × List Int) :=
  let n := (r.getD 1 0).toNat
  if r.length < 10 + n + n then none else
  some (⟨r.getD 0 0, strOfNums ((r.drop 2).take n), strOfNums ((r.drop (2 + n)).take n), numB ((r.drop (2 + n + n)).take 2), numB ((r.drop (2 + n + n + 2)).take 2), r.getD (2 + n + n + 4) 0, r.getD (2 + n + n + 5) 0, numB ((r.drop (2 + n + n + 6)).take 2)⟩, r.drop (2 + n + n + 8))
def rGo : Nat → List Int → List Rec → Option (List Rec)
  | 0, _, l => some l
  | k + 1, r, l => if r.length < 2 ∨ 64 < l.length then some l else match rRec r with
    | none => none
    | some p => rGo k p.2 (l ++ [p.1])
def rdec (xs : List Int) : Option (Int × Int × List Rec) :=
  if xs.length < 19 then none else match rGo 66 (xs.drop 19) [] with
  | none => none
  | some l => if batchOk (numB ((xs.drop 2).take 8)) (numB ((xs.drop 10).take 8)) l = true ∧ batchB (numB ((xs.drop 2).take 8)) (numB ((xs.drop 10).take 8)) l = xs then some (numB ((xs.drop 2).take 8), numB ((xs.drop 10).take 8), l) else none
theorem drop_app {a b : List Int} {n : Nat} (h : a.length = n) (m : Nat) : (a ++ b).drop (n + m) = b.drop m := by
  subst h
  rw [List.drop_append, List.drop_eq_nil_of_le (by omega), List.nil_append]
  congr 1
  omega
theorem getD_app {a b : List Int} {n : Nat} (h : a.length = n) (m : Nat) : (a ++ b).getD (n + m) 0 = b.getD m 0 := by
  subst h
  rw [List.getD_eq_getElem?_getD, List.getElem?_append_right (by omega), List.getD_eq_getElem?_getD]
  congr 2
  omega
theorem take_app {a b : List Int} {n : Nat} (h : a.length = n) : (a ++ b).take n = a := by subst h; simp
theorem rRec_print {r : Rec} (h : r.ok = true) (rest : List Int) : rRec (recB r ++ rest) = some (r, rest) := by
  obtain ⟨⟨p0, p1⟩, hs, ht, ⟨o0, o1⟩, ⟨d0, d1⟩, ⟨b0, b1⟩, ⟨s0, s1⟩, ⟨l0, l1⟩⟩ := rec_all h
  obtain ⟨n, hn⟩ : ∃ n, n = r.fr.size := ⟨_, rfl⟩
  have hlen : (recB r ++ rest).length = 10 + n + n + rest.length := by rw [List.length_append, recB_len, Rec.size]; omega
  have hin := recB_in h rest
  have n4 : numB (beB 2 r.po) = r.po := num_beB 2 _ o0 (Int.lt_of_le_of_lt o1 (by decide)) (by omega)
  have n5 : numB (beB 2 r.de) = r.de := num_beB 2 _ d0 (Int.lt_of_le_of_lt d1 (by decide)) (by omega)
  have n8 : numB (beB 2 r.le) = r.le := num_beB 2 _ l0 (Int.lt_of_le_of_lt l1 (by decide)) (by omega)
  have f1 : (bytesOf r.fr).length = n := by rw [bytesOf_length, hn]
  have f2 : (bytesOf r.tt).length = n := by rw [bytesOf_length, hn, ht]
  have f3 : (beB 2 r.po).length = 2 := beB_len _ _
  have f4 : (beB 2 r.de).length = 2 := beB_len _ _
  have f5 : (beB 2 r.le).length = 2 := beB_len _ _
  unfold rRec
  rw [hin] at hlen ⊢
  have g0 : ∀ t : List Int, ([r.pr] ++ ([(r.fr.size : Int)] ++ t)).getD 1 0 = r.fr.size := fun t => rfl
  have g1 : ∀ t : List Int, ([r.pr] ++ ([(r.fr.size : Int)] ++ t)).getD 0 0 = r.pr := fun t => rfl
  have gd : ∀ (t : List Int) (m : Nat), ([r.pr] ++ ([(r.fr.size : Int)] ++ t)).drop (2 + m) = t.drop m := fun t m => by rw [Nat.add_comm]; rfl
  have gd0 : ∀ (t : List Int), ([r.pr] ++ ([(r.fr.size : Int)] ++ t)).drop 2 = t := fun t => rfl
  have gg : ∀ (t : List Int) (m : Nat), ([r.pr] ++ ([(r.fr.size : Int)] ++ t)).getD (2 + m) 0 = t.getD m 0 := fun t m => by rw [Nat.add_comm]; rfl
  have e1 : ((r.fr.size : Int)).toNat = n := by omega
  dsimp only
  rw [g0, e1, if_neg (by omega), g1, gd0]
  simp only [Nat.add_assoc, gd, gg]
  have d1 := fun m (t : List Int) => drop_app (a := bytesOf r.fr) (b := t) f1 m
  have d1z : ∀ (t : List Int), (bytesOf r.fr ++ t).drop n = t := fun t => by have := d1 0 t; simpa using this
  have d2 := fun m (t : List Int) => drop_app (a := bytesOf r.tt) (b := t) f2 m
  have d2z : ∀ (t : List Int), (bytesOf r.tt ++ t).drop n = t := fun t => by have := d2 0 t; simpa using this
  have q1 := fun m (t : List Int) => getD_app (a := bytesOf r.fr) (b := t) f1 m
  have q2 := fun m (t : List Int) => getD_app (a := bytesOf r.tt) (b := t) f2 m
  have t1 := fun (t : List Int) => take_app (a := bytesOf r.fr) (b := t) f1
  have t2 := fun (t : List Int) => take_app (a := bytesOf r.tt) (b := t) f2
  have k2 : ∀ t : List Int, (beB 2 r.po ++ t).drop 2 = t := fun t => rfl
  have k6 : ∀ t : List Int, (beB 2 r.po ++ (beB 2 r.de ++ ([r.ba] ++ ([r.st] ++ t)))).drop 6 = t := fun t => rfl
  have k8 : ∀ t : List Int, (beB 2 r.po ++ (beB 2 r.de ++ ([r.ba] ++ ([r.st] ++ (beB 2 r.le ++ t))))).drop 8 = t := fun t => rfl
  have k4 : ∀ t : List Int, (beB 2 r.po ++ (beB 2 r.de ++ ([r.ba] ++ ([r.st] ++ t)))).getD 4 0 = r.ba := fun t => rfl
  have k5 : ∀ t : List Int, (beB 2 r.po ++ (beB 2 r.de ++ ([r.ba] ++ ([r.st] ++ t)))).getD 5 0 = r.st := fun t => rfl
  have w3 := fun (t : List Int) => take_app (a := beB 2 r.po) (b := t) f3
  have w4 := fun (t : List Int) => take_app (a := beB 2 r.de) (b := t) f4
  have w5 := fun (t : List Int) => take_app (a := beB 2 r.le) (b := t) f5
  simp only [d1, d1z, d2, d2z, q1, q2, t1, t2, k2, k4, k5, k6, k8, w3, w4, w5, n4, n5, n8, ← str_of]
theorem rGo_print : ∀ (l2 l1 : List Rec) (k : Nat), l2.all Rec.ok = true → l1.length + l2.length ≤ 64 → l2.length < k → rGo k (l2.flatMap recB) l1 = some (l1 ++ l2)
  | [], l1, k + 1, _, _, _ => by simp [rGo]
  | [], l1, 0, _, _, h => by omega
  | r :: l2, l1, 0, _, _, h => by omega
  | r :: l2, l1, k + 1, ha, h1, h2 => by
    rw [List.length_cons] at h1 h2
    rw [List.all_cons, Bool.and_eq_true] at ha
    have h3 := rRec_print ha.1 (l2.flatMap recB)
    have h4 : 10 ≤ (recB r).length := by rw [recB_len]; unfold Rec.size; omega
    rw [List.flatMap_cons, rGo, if_neg (by rw [List.length_append]; omega), h3]
    show rGo k (l2.flatMap recB) (l1 ++ [r]) = _
    rw [rGo_print l2 (l1 ++ [r]) k ha.2 (by rw [List.length_append, List.length_singleton]; omega) (by omega)]
    simp
/-- The document reads just the batches. -/
theorem rdec_iff (xs : List Int) (s n : Int) (l : List Rec) : rdec xs = some (s, n, l) ↔ batchOk s n l = true ∧ batchB s n l = xs := by
  constructor
  · intro h
    unfold rdec at h
    split at h
    · cases h
    · split at h
      · cases h
      · split at h
        · rename_i hk
          simp only [Option.some.injEq, Prod.mk.injEq] at h
          obtain ⟨rfl, rfl, rfl⟩ := h
          exact hk
        · cases h
  · rintro ⟨hok, rfl⟩
    obtain ⟨⟨s0, s1⟩, ⟨n0, n1⟩, l1, l64, hall, hlen⟩ := batch_facts hok
    have hlen2 : ¬ (batchB s n l).length < 19 := by rw [batchB, List.length_append, headB_len]; omega
    have hin := batchB_in s n l64
    have v0 := num_beB 8 s s0 (big_lt s1) s1
    have v1 := num_beB 8 n (by omega) (big_lt n1) n1
    have e0 : ((batchB s n l).drop 2).take 8 = beB 8 s := by rw [hin]; rfl
    have e1 : ((batchB s n l).drop 10).take 8 = beB 8 n := by rw [hin]; rfl
    have e2 : (batchB s n l).drop 19 = l.flatMap recB := by
      have : (batchB s n l).drop 19 = l.flatMap recB ++ [] := by rw [hin]; rfl
      rw [this, List.append_nil]
    have hg := rGo_print l [] 66 hall (by simpa using l64) (by omega)
    unfold rdec
    rw [if_neg hlen2, e2, hg, e0, e1, v0, v1]
    simp [hok]
/-- The two readings are one. -/
theorem pdec_rdec (xs : List Int) (hb : Byt xs) : pdec xs = rdec xs := by
  cases h : rdec xs with
  | some p =>
    obtain ⟨s, n, l⟩ := p
    exact (pdec_iff xs hb s n l).2 ((rdec_iff xs s n l).1 h)
  | none =>
    cases h2 : pdec xs with
    | none => rfl
    | some p =>
      obtain ⟨s, n, l⟩ := p
      have := (rdec_iff xs s n l).2 ((pdec_iff xs hb s n l).1 h2)
      rw [h] at this
      cases this
end Go.Proofs.Ytghfoooldcbdnaa
