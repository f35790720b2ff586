/-
  THE PLAIN LAWS OF LAYER 14, MORE OF THEM: answers; no batch is the front of another one; how many records one batch takes.
-/
import Derived.Test.YtghfoooldcbdnaaAlive14
set_option linter.unusedVariables false
set_option linter.unusedSimpArgs false
namespace Go.Proofs.Ytghfoooldcbdnaa
open Go.RowKit Go.Proofs.Ytghfoooldcbdnaa.SL Go.Proofs.YtghfoooldcbdnaaW.PrintWords

/-! ### answers -/
theorem numB_top {xs : List Int} : numB xs ≤ 4611686018427387904 := by
  unfold numB
  split <;> omega
theorem split27 {xs : List Int} (h : xs.length = 27) : xs = [xs.getD 0 0, xs.getD 1 0] ++ (pc xs 2 10 ++ (pc xs 10 18 ++ ([xs.getD 18 0] ++ xs.drop 19))) := by
  have e18 : xs.drop 18 = [xs.getD 18 0] ++ xs.drop 19 := by
    rw [List.drop_eq_getElem_cons (by omega), List.getD_eq_getElem?_getD, List.getElem?_eq_getElem (by omega)]
    rfl
  have e10 : xs.drop 10 = pc xs 10 18 ++ xs.drop 18 := by
    have := (List.take_append_drop 8 (xs.drop 10)).symm
    rw [List.drop_drop] at this
    exact this
  have e2 : xs.drop 2 = pc xs 2 10 ++ xs.drop 10 := by
    have := (List.take_append_drop 8 (xs.drop 2)).symm
    rw [List.drop_drop] at this
    exact this
  have e0 : xs = [xs.getD 0 0, xs.getD 1 0] ++ xs.drop 2 := by
    match xs, h with
    | a :: b :: t, _ => rfl
  rw [← e18, ← e10, ← e2, ← e0]
theorem ansB_in (s n : Int) (g : Bool) (f : Int) : ansB s n g f = [65, 1] ++ (beB 8 s ++ (beB 8 n ++ ([bitB g] ++ beB 8 f))) := by
  unfold ansB
  simp only [List.append_assoc]
theorem ans_fields (s n f : Int) (g : Bool) (h : ansOk s n = true) (hf0 : 0 ≤ f) (hf1 : f ≤ 18446744073709551615) :
    numB (pc (ansB s n g f) 2 10) = s ∧ numB (pc (ansB s n g f) 10 18) = n ∧ (ansB s n g f).getD 18 0 = bitB g ∧ valB ((ansB s n g f).drop 19) = f ∧ (ansB s n g f).getD 0 0 = 65 ∧ (ansB s n g f).getD 1 0 = 1 := by
  simp only [ansOk, inB, Bool.and_eq_true, decide_eq_true_eq] at h
  obtain ⟨⟨s0, s1⟩, n0, n1⟩ := h
  have e := ansB_in s n g f
  have p1 : pc (ansB s n g f) 2 10 = beB 8 s := by rw [e]; rfl
  have p2 : pc (ansB s n g f) 10 18 = beB 8 n := by rw [e]; rfl
  have p3 : (ansB s n g f).drop 19 = beB 8 f := by rw [e]; rfl
  refine ⟨by rw [p1, num_beB 8 s s0 (big_lt s1) s1], by rw [p2, num_beB 8 n n0 (big_lt n1) n1], by rw [e]; rfl, ?_, by rw [e]; rfl, by rw [e]; rfl⟩
  rw [p3]
  exact val_beB 8 f hf0 (Int.lt_of_le_of_lt hf1 (by decide))
theorem bit_one (g : Bool) : (bitB g == 1) = g := by cases g <;> rfl
theorem ans_back {xs : List Int} (hb : Byt xs) (hl : xs.length = 27) (h0 : xs.getD 0 0 = 65) (h1 : xs.getD 1 0 = 1) (h2 : xs.getD 18 0 ≤ 1) (hs : 0 ≤ numB (pc xs 2 10)) (hn : 0 ≤ numB (pc xs 10 18)) :
    ansB (numB (pc xs 2 10)) (numB (pc xs 10 18)) (xs.getD 18 0 == 1) (valB (xs.drop 19)) = xs := by
  have q0 := byt_get hb 18 (by omega)
  have w1 := beB_num (pc_byt hb 2 10) hs
  have w2 := beB_num (pc_byt hb 10 18) hn
  have w3 := beB_val (xs.drop 19) (fun x hx => hb x (List.mem_of_mem_drop hx))
  rw [pc_len xs (by omega)] at w1 w2
  rw [List.length_drop, hl] at w3
  have w4 : bitB (xs.getD 18 0 == 1) = xs.getD 18 0 := by
    rcases (show xs.getD 18 0 = 0 ∨ xs.getD 18 0 = 1 by omega) with h | h <;> rw [h] <;> rfl
  rw [ansB_in, w1, w2, w3, w4]
  have := split27 hl
  rw [h0, h1] at this
  exact this.symm
theorem adec_iff (xs : List Int) (hb : Byt xs) (s n f : Int) (g : Bool) : adec xs = some (s, n, g, f) ↔ (ansOk s n = true ∧ 0 ≤ f ∧ f ≤ 18446744073709551615) ∧ ansB s n g f = xs := by
  constructor
  · intro h
    unfold adec at h
    split at h
    · cases h
    · rename_i hc
      simp only [not_or, Decidable.not_not] at hc
      obtain ⟨hl, c0, c1, c2⟩ := hc
      split at h
      · cases h
      · rename_i hk
        simp only [Option.some.injEq, Prod.mk.injEq] at h
        obtain ⟨rfl, rfl, rfl, rfl⟩ := h
        have hv := valB_8 (xs := xs.drop 19) (fun x hx => hb x (List.mem_of_mem_drop hx)) (by rw [List.length_drop]; omega)
        have t1 := numB_top (xs := pc xs 2 10)
        have t2 := numB_top (xs := pc xs 10 18)
        refine ⟨⟨?_, hv⟩, ans_back hb hl c0 c1 (by omega) (by omega) (by omega)⟩
        simp only [ansOk, inB, Bool.and_eq_true, decide_eq_true_eq]
        omega
  · rintro ⟨⟨hok, f0, f1⟩, rfl⟩
    obtain ⟨k1, k2, k3, k4, k5, k6⟩ := ans_fields s n f g hok f0 f1
    simp only [ansOk, inB, Bool.and_eq_true, decide_eq_true_eq] at hok
    unfold adec
    rw [if_neg (by
      rintro (h | h | h | h)
      · exact h (ansB_len _ _ _ _)
      · exact h k5
      · exact h k6
      · rw [k3] at h; cases g <;> simp [bitB] at h), k1, k2, k3, k4, bit_one, if_neg (by omega)]
theorem radec_iff (xs : List Int) (hb : Byt xs) (s n f : Int) (g : Bool) : radec xs = some (s, n, g, f) ↔ (ansOk s n = true ∧ 0 ≤ f ∧ f ≤ 18446744073709551615) ∧ ansB s n g f = xs := by
  constructor
  · intro h
    unfold radec at h
    split at h
    · cases h
    · rename_i hl
      split at h
      · rename_i hk
        simp only [Option.some.injEq, Prod.mk.injEq] at h
        obtain ⟨rfl, rfl, rfl, rfl⟩ := h
        have hv := valB_8 (xs := xs.drop 19) (fun x hx => hb x (List.mem_of_mem_drop hx)) (by rw [List.length_drop]; omega)
        exact ⟨⟨hk.1, hv⟩, hk.2⟩
      · cases h
  · rintro ⟨⟨hok, f0, f1⟩, rfl⟩
    obtain ⟨k1, k2, k3, k4, k5, k6⟩ := ans_fields s n f g hok f0 f1
    unfold radec
    rw [if_neg (by rw [ansB_len]; simp), k1, k2, k3, k4, bit_one, if_pos ⟨hok, rfl⟩]
theorem adec_radec (xs : List Int) (hb : Byt xs) : adec xs = radec xs := by
  cases h : radec xs with
  | some p =>
    obtain ⟨s, n, g, f⟩ := p
    exact (adec_iff xs hb s n f g).2 ((radec_iff xs hb s n f g).1 h)
  | none =>
    cases h2 : adec xs with
    | none => rfl
    | some p =>
      obtain ⟨s, n, g, f⟩ := p
      have := (radec_iff xs hb s n f g).2 ((adec_iff xs hb s n f g).1 h2)
      rw [h] at this
      cases this
/-- What reading an answer gives, as it is handed back. -/
def aRes : Option (Int × Int × Bool × Int) → Int × Int × Bool × Int × Int
  | some (s, n, g, f) => (s, n, g, f, 0)
  | none => (0, 0, false, 0, 140)
theorem ansd_as (xs : List Int) (hb : Byt xs) (m : Nat) (hlm : xs.length = m) (s n f er : Int) (g : Bool) (h : aRes (adec xs) = (s, n, g, f, er)) (A : Option Addr) (c : Nat) (hc : m ≤ c) (hm : m ≤ 140737488355328) (w : World) (hr : Reads w A (bytes xs)) :
    Calls Try.prog 50 #[.slice A m c] w fun e w' => e = .returned (.tuple #[.agg #[.int .i64 s, .int .i64 n, .bool g, .int .u64 f], .int .i64 er]) ∧ Mod w.heap.size w [] w' := by
  subst hlm
  refine (DecodeAnswer_calls xs A c hc (Nat.le_trans hm (by decide)) w hr hb).mono fun e w' => ?_
  rintro ⟨s', n', g', f', er', rfl, hj, ho⟩
  have he : (s', n', g', f', er') = (s, n, g, f, er) := by
    rw [← h]
    rcases ho.out with ⟨h1, rfl, rfl, rfl, rfl, rfl⟩ | ⟨h1, rfl, _⟩ <;> rw [h1] <;> rfl
  simp only [Prod.mk.injEq] at he
  obtain ⟨rfl, rfl, rfl, rfl, rfl⟩ := he
  exact ⟨rfl, hj⟩
theorem ransd_as (xs : List Int) (hb : Byt xs) (s n f er : Int) (g : Bool) (h : aRes (adec xs) = (s, n, g, f, er)) (A : Option Addr) (c : Nat) (hc : xs.length ≤ c) (hm : xs.length ≤ 140737488355328) (w : World) (hr : Reads w A (bytes xs)) :
    Calls Try.prog 51 #[.slice A xs.length c] w fun e w' => e = .returned (.tuple #[.agg #[.int .i64 s, .int .i64 n, .bool g, .int .u64 f], .int .i64 er]) ∧ Mod w.heap.size w [] w' := by
  refine (refDecodeAnswer_calls xs A c hc (Nat.le_trans hm (by decide)) w hr hb).mono fun e w' => ?_
  rintro ⟨s', n', g', f', er', rfl, hj, ho⟩
  have ho2 := ho.out
  rw [← adec_radec xs hb] at ho2
  have he : (s', n', g', f', er') = (s, n, g, f, er) := by
    rw [← h]
    rcases ho2 with ⟨h1, rfl, rfl, rfl, rfl, rfl⟩ | ⟨h1, rfl, _⟩ <;> rw [h1] <;> rfl
  simp only [Prod.mk.injEq] at he
  obtain ⟨rfl, rfl, rfl, rfl, rfl⟩ := he
  exact ⟨rfl, hj⟩

/-! ### no batch is the front of another one -/
theorem batch_front {s n s' n' : Int} {l l' : List Rec} (h : batchOk s n l = true) (h' : batchOk s' n' l' = true) (rest : List Int) (he : batchB s' n' l' ++ rest = batchB s n l) : rest = [] := by
  obtain ⟨_, _, l1, l64, hall, _⟩ := batch_facts h
  obtain ⟨_, _, l1', l64', hall', _⟩ := batch_facts h'
  have e := batchB_in s n l64
  have e' := batchB_in s' n' l64'
  have d1 : (batchB s n l).drop 18 = [(l.length : Int)] ++ (l.flatMap recB ++ []) := by rw [e]; rfl
  have d2 : (batchB s' n' l' ++ rest).drop 18 = [(l'.length : Int)] ++ (l'.flatMap recB ++ rest) := by
    rw [e']
    show (l'.length : Int) :: ((l'.flatMap recB ++ []) ++ rest) = _
    rw [List.append_nil]
    rfl
  rw [he, d1] at d2
  have hl : (l.length : Int) = l'.length ∧ l.flatMap recB ++ [] = l'.flatMap recB ++ rest := by
    have := d2
    simp only [List.cons_append, List.nil_append, List.cons.injEq] at this
    exact this
  obtain ⟨hl1, hl2⟩ := hl
  have p1 := pRecs_print [] false l hall l.length (Nat.le_refl _)
  have p2 := pRecs_print rest false l' hall' l'.length (Nat.le_refl _)
  have hlen : l.length = l'.length := by omega
  rw [hl2, hlen, p2] at p1
  simp only [List.drop_length, List.flatMap_nil, List.nil_append, Prod.mk.injEq] at p1
  have : (l.drop l'.length).flatMap recB = [] := by rw [← hlen, List.drop_length]; rfl
  rw [this] at p1
  simpa using p1.2
theorem pdec_cut {s n : Int} {l : List Rec} (h : batchOk s n l = true) (k : Nat) (hk : k < (batchB s n l).length) : pdec ((batchB s n l).take k) = none := by
  cases hp : pdec ((batchB s n l).take k) with
  | none => rfl
  | some p =>
    obtain ⟨s', n', l'⟩ := p
    have hb : Byt ((batchB s n l).take k) := fun x hx => Byt.batch s n l x (List.mem_of_mem_take hx)
    obtain ⟨h1, h2⟩ := (pdec_iff _ hb s' n' l').1 hp
    have h3 := batch_front h h1 ((batchB s n l).drop k) (by rw [h2, List.take_append_drop])
    have := congrArg List.length h3
    rw [List.length_drop, List.length_nil] at this
    omega
theorem pdec_more {s n : Int} {l : List Rec} (h : batchOk s n l = true) (m : List Int) (hb : Byt m) (hm : 1 ≤ m.length) : pdec (batchB s n l ++ m) = none := by
  cases hp : pdec (batchB s n l ++ m) with
  | none => rfl
  | some p =>
    obtain ⟨s', n', l'⟩ := p
    obtain ⟨h1, h2⟩ := (pdec_iff _ ((Byt.batch s n l).app hb) s' n' l').1 hp
    have h3 := batch_front h1 h m h2.symm
    rw [h3] at hm
    simp at hm
/-- No bytes are both. -/
theorem kinds (xs : List Int) (hb : Byt xs) : pdec xs = none ∨ adec xs = none := by
  cases hp : pdec xs with
  | none => exact .inl rfl
  | some p =>
    right
    obtain ⟨s, n, l⟩ := p
    obtain ⟨h1, h2⟩ := (pdec_iff _ hb s n l).1 hp
    have e := batchB_in s n (batch_facts h1).2.2.2.1
    have h0 : xs.getD 0 0 = 83 := by rw [← h2, e]; rfl
    unfold adec
    rw [if_pos (.inr (.inl (by rw [h0]; decide)))]

/-! ### how many records one batch takes -/
theorem roomGo_take : ∀ (l : List Rec) (n k j : Nat), roomGo n k l - k ≤ j → roomGo n k (l.take j) = roomGo n k l
  | [], n, k, j, _ => by simp
  | r :: l, n, k, j, hj => by
    have hk : ∀ (l : List Rec) (n k : Nat), k ≤ roomGo n k l := by
      intro l
      induction l with
      | nil => intro n k; simp [roomGo]
      | cons r l ih => intro n k; unfold roomGo; split <;> first | omega | (have := ih (n + r.size) (k + 1); omega)
    by_cases hc : 64 ≤ k ∨ 1400 < n + r.size
    · cases j with
      | zero => simp [roomGo, hc]
      | succ j => simp [roomGo, hc]
    · have h1 : roomGo n k (r :: l) = roomGo (n + r.size) (k + 1) l := by rw [roomGo, if_neg hc]
      have h2 := hk l (n + r.size) (k + 1)
      cases j with
      | zero => rw [h1] at hj; omega
      | succ j =>
        rw [h1, List.take_succ_cons, roomGo, if_neg hc]
        exact roomGo_take l (n + r.size) (k + 1) j (by rw [h1] at hj; omega)
theorem roomGo_64 : ∀ (l : List Rec) (n k : Nat), k ≤ 64 → roomGo n k l ≤ 64
  | [], n, k, h => by simpa [roomGo] using h
  | r :: l, n, k, h => by
    unfold roomGo
    split
    · exact h
    · exact roomGo_64 l _ _ (by omega)
theorem room_le (l : List Rec) : room l ≤ l.length := by have := roomGo_at l 19 0; unfold room; omega
theorem room_64 (l : List Rec) : room l ≤ 64 := roomGo_64 l 19 0 (by omega)
theorem room_pos {l : List Rec} (h : l.all Rec.ok = true) (hl : 0 < l.length) : 0 < room l := by
  cases l with
  | nil => simp at hl
  | cons r l =>
    rw [List.all_cons, Bool.and_eq_true] at h
    have hr := rec_all h.1
    unfold room roomGo
    rw [if_neg (by unfold Rec.size; omega)]
    have hk : ∀ (l : List Rec) (n k : Nat), k ≤ roomGo n k l := by
      intro l
      induction l with
      | nil => intro n k; simp [roomGo]
      | cons r l ih => intro n k; unfold roomGo; split <;> first | omega | (have := ih (n + r.size) (k + 1); omega)
    have := hk l (19 + r.size) (0 + 1)
    omega
theorem room_yes {l : List Rec} (h : l.all Rec.ok = true) (hl : 0 < room l) (s n : Int) (hs : 0 ≤ s ∧ s ≤ 4611686018427387904) (hn : 1 ≤ n ∧ n ≤ 4611686018427387904) : batchOk s n (l.take (room l)) = true := by
  have h1 := roomGo_take l 19 0 (room l) (by unfold room; omega)
  have h2 := room_le l
  have h3 : (l.take (room l)).length = room l := by rw [List.length_take]; omega
  have h4 : (l.take (room l)).all Rec.ok = true := List.all_eq_true.2 fun x hx => List.all_eq_true.1 h x (List.mem_of_mem_take hx)
  simp only [batchOk, headOk, inB, Bool.and_eq_true, decide_eq_true_eq, beq_iff_eq, Bool.not_eq_true', List.isEmpty_eq_false_iff]
  refine ⟨⟨⟨⟨hs, hn⟩, ?_⟩, ?_⟩, h4⟩
  · intro hc; rw [hc] at h3; simp at h3; omega
  · rw [h3]; exact h1
theorem room_no {l : List Rec} (hl : room l < l.length) (s n : Int) : batchOk s n (l.take (room l + 1)) = false := by
  have h1 := roomGo_take l 19 0 (room l + 1) (by unfold room; omega)
  have h3 : (l.take (room l + 1)).length = room l + 1 := by rw [List.length_take]; omega
  rw [Bool.eq_false_iff]
  intro hc
  simp only [batchOk, headOk, Bool.and_eq_true, beq_iff_eq] at hc
  have h5 := hc.1.2
  rw [h3] at h5
  have h6 : room (l.take (room l + 1)) = room l := h1
  omega
end Go.Proofs.Ytghfoooldcbdnaa
