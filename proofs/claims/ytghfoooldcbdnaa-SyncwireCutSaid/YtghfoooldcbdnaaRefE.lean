/-
  THE DOCUMENT's ANSWER FOR LAYER 14: Encode.
-/
import Derived.Test.YtghfoooldcbdnaaRefT
import Derived.Test.YtghfoooldcbdnaaRefR
set_option linter.unusedVariables false
set_option linter.unusedSimpArgs false
namespace Go.Proofs.Ytghfoooldcbdnaa
open Go.RowKit Go.Proofs.Ytghfoooldcbdnaa.SL Go.Proofs.YtghfoooldcbdnaaW.PrintWords

def refHead (s n : Int) (l : List Rec) : Bool := inB s 0 4611686018427387904 && inB n 1 4611686018427387904 && decide (1 ≤ l.length) && decide (l.length ≤ 64)
theorem roomGo_iff : ∀ (l : List Rec) (n k : Nat), (l = [] ∨ k + l.length ≤ 64) → n + (l.flatMap recB).length ≤ 1400 → roomGo n k l = k + l.length
  | [], n, k, _, _ => by simp [roomGo]
  | r :: l, n, k, h, hn => by
    rw [List.flatMap_cons, List.length_append, recB_len] at hn
    have h1 : k + (r :: l).length ≤ 64 := by
      rcases h with h | h
      · cases h
      · exact h
    rw [List.length_cons] at h1 ⊢
    unfold roomGo
    rw [if_neg (by omega), roomGo_iff l (n + r.size) (k + 1) (.inr (by omega)) (by omega)]
    omega
theorem flat_all (l : List Rec) : ∀ j, ((l.take j).flatMap recB).length ≤ (l.flatMap recB).length := by
  induction l with
  | nil => simp
  | cons r l ih =>
    intro j
    cases j with
    | zero => simp
    | succ j =>
      have := ih j
      simp only [List.take_succ_cons, List.flatMap_cons, List.length_append]
      omega
/-- The two ways to say which batches may be. -/
theorem batchOk_ref (s n : Int) (l : List Rec) : batchOk s n l = (refHead s n l && l.all Rec.ok && decide (19 + (l.flatMap recB).length ≤ 1400)) := by
  rw [Bool.eq_iff_iff]
  simp only [batchOk, headOk, refHead, Bool.and_eq_true, decide_eq_true_eq, beq_iff_eq, Bool.not_eq_true', List.isEmpty_eq_false_iff]
  constructor
  · rintro ⟨⟨⟨⟨h1, h2⟩, h3⟩, h4⟩, h5⟩
    obtain ⟨h6, h7⟩ := roomGo_full l 19 0 (by rw [Nat.zero_add]; exact h4) (by omega)
    have h8 := h7 l.length
    rw [List.take_length] at h8
    have h9 : 0 < l.length := List.length_pos_iff.2 h3
    refine ⟨⟨⟨⟨⟨h1, h2⟩, h9⟩, ?_⟩, h5⟩, h8⟩
    rcases h6 with h6 | h6
    · exact absurd h6 h3
    · omega
  · rintro ⟨⟨⟨⟨⟨h1, h2⟩, h3⟩, h4⟩, h5⟩, h6⟩
    refine ⟨⟨⟨⟨h1, h2⟩, List.length_pos_iff.1 h3⟩, ?_⟩, h5⟩
    have := roomGo_iff l 19 0 (.inr (by omega)) h6
    rw [Nat.zero_add] at this
    exact this
theorem recB_42 {x : Rec} (h : x.ok = true) : (recB x).length ≤ 42 := by
  have := rec_all h
  rw [recB_len]
  unfold Rec.size
  omega
theorem take_42 (l : List Rec) : ∀ k, (l.take k).all Rec.ok = true → ((l.take k).flatMap recB).length ≤ k * 42 := by
  induction l with
  | nil => simp
  | cons r l ih =>
    intro k h
    cases k with
    | zero => simp
    | succ k =>
      simp only [List.take_succ_cons, List.all_cons, Bool.and_eq_true] at h
      have h1 := ih k h.2
      have h2 := recB_42 h.1
      simp only [List.take_succ_cons, List.flatMap_cons, List.length_append]
      omega
theorem text_any (x : Rec) (hok : x.ok = true) (w : World) : Calls Try.prog 90 #[.agg x.cells.toArray] w fun e w' => ∃ S, e = .returned (.string S) ∧ S.size ≤ 42 ∧ Aside0 (S = strOfNums (recB x)) ∧ Mod w.heap.size w [] w' :=
  (text_calls x hok w).mono fun e w' h => ⟨_, h.1, by rw [str_len]; exact recB_42 hok, ⟨rfl⟩, h.2⟩
theorem head_eq (s n : Int) (l : List Rec) (h : l.length ≤ 64) : ((({ data := #[83, 1] } : ByteArray) ++ strOfNums (beB 8 s)) ++ strOfNums (beB 8 n)) ++ strOfNums (beB 1 (l.length : Int)) = strOfNums (headB s n l) := by
  have e : ({ data := #[83, 1] } : ByteArray) = strOfNums [83, 1] := rfl
  rw [e, str_app, str_app, str_app, beB_one]
  rfl

/-! ### bytes in range -/
def Byt (l : List Int) : Prop := ∀ x ∈ l, 0 ≤ x ∧ x < 256
theorem Byt.app {a b : List Int} (h : Byt a) (k : Byt b) : Byt (a ++ b) := by
  intro x hx
  rcases List.mem_append.1 hx with hx | hx
  · exact h x hx
  · exact k x hx
theorem Byt.mod (n : Int) : Byt [n % 256] := by
  intro x hx
  have : x = n % 256 := by simpa using hx
  omega
theorem Byt.be (n : Int) : ∀ k, Byt (beB k n)
  | 0 => by intro x hx; simp [beB] at hx
  | k + 1 => by
    intro x hx
    rcases List.mem_cons.1 hx with rfl | hx
    · omega
    · exact Byt.be n k x hx
theorem Byt.str (s : ByteArray) : Byt (bytesOf s) := by
  intro x hx
  obtain ⟨b, _, rfl⟩ := List.mem_map.1 hx
  have := b.toNat_lt
  omega
theorem Byt.rec (x : Rec) : Byt (recB x) := by
  unfold recB
  refine ((((((Byt.app ?_ (Byt.str _)).app (Byt.str _)).app (Byt.be _ _)).app (Byt.be _ _)).app ?_).app (Byt.be _ _))
  · exact (Byt.mod x.pr).app (Byt.mod _)
  · exact (Byt.mod x.ba).app (Byt.mod _)
theorem Byt.recs (l : List Rec) : Byt (l.flatMap recB) := by
  intro x hx
  obtain ⟨r, _, hr⟩ := List.mem_flatMap.1 hx
  exact Byt.rec r x hr
theorem Byt.head (s n : Int) (l : List Rec) : Byt (headB s n l) := by
  unfold headB
  refine (((Byt.app ?_ (Byt.be _ _)).app (Byt.be _ _)).app (Byt.mod _))
  intro x hx
  rcases List.mem_cons.1 hx with rfl | hx
  · decide
  · have : x = 1 := by simpa using hx
    subst this; decide
theorem Byt.batch (s n : Int) (l : List Rec) : Byt (batchB s n l) := (Byt.head s n l).app (Byt.recs l)
theorem Byt.back {l : List Int} (h : Byt l) : bytesOf (strOfNums l) = l := by
  unfold bytesOf strOfNums
  rw [List.map_map]
  conv => rhs; rw [← List.map_id l]
  refine List.map_congr_left fun x hx => ?_
  have := h x hx
  simp only [Function.comp_apply, id]
  rw [UInt8.toNat_ofNat']
  omega
theorem Byt.cells {l : List Int} (h : Byt l) : Lib.strCells (strOfNums l) = bytes l := by rw [← bytes_str, h.back]

set_option maxHeartbeats 2000000 in
set_option maxRecDepth 100000 in
theorem refEncode_head (s n : Int) (l : List Rec) (A : Option Addr) (c : Nat) (hm : l.length ≤ maxLen) (w : World) (h : refHead s n l = false) :
    Calls Try.prog 60 #[.agg #[.int .i64 s, .int .i64 n, .slice A l.length c]] w fun e w' => e = .returned (.tuple #[.slice none 0 0, .int .i64 140]) ∧ Mod w.heap.size w [] w' := by
  have HM := Mod.start w
  have HO : Aside0 (¬ ((0 ≤ s ∧ s ≤ 4611686018427387904) ∧ (1 ≤ n ∧ n ≤ 4611686018427387904) ∧ 1 ≤ l.length ∧ l.length ≤ 64)) := ⟨by
    rintro ⟨⟨h1, h2⟩, ⟨h3, h4⟩, h5, h6⟩
    simp [refHead, inB, h1, h2, h3, h4, h5, h6] at h⟩
  unfold maxLen at hm
  clear h
  by_cases c0 : s < 0
  · have hcl := hm
    have b0 : decide (s < 0) = true := decide_eq_true (by omega)
    clear hcl c0
    go_enter Try.func60, Try.ntmps60
    go_wp2_with (first | go_step3 | ((with_reducible apply sl_want); exact rfl) | ((with_reducible apply sl_load HM); exact rfl; infer_instance; infer_instance; (try simp only [Act.put, List.setIfInBounds_toArray, List.set_cons_zero, List.set_cons_succ])) | ((with_reducible apply sl_store HM); exact rfl; (first | exact Ev.tmp rfl | exact Ev.const); infer_instance; infer_instance; infer_instance; clear HM; (try clear wq); intro wq HM; (try simp only [Act.put, List.setIfInBounds_toArray, List.set_cons_zero, List.set_cons_succ])) | ((with_reducible apply sl_loadR); exact rfl; assumption; (try simp only [Act.put, List.setIfInBounds_toArray, List.set_cons_zero, List.set_cons_succ])) | ((with_reducible apply sl_loadH HM); exact rfl; assumption; infer_instance; (try simp only [Act.put, List.setIfInBounds_toArray, List.set_cons_zero, List.set_cons_succ])) | ((with_reducible refine gate_dst (N := 1) rfl ?_); (with_reducible apply sl_box HM); (first | exact Ev.tmp rfl | exact Ev.const); exact rfl; clear HM; (try clear wq); intro g1 wq HM; (try simp only [Act.put, List.setIfInBounds_toArray, List.set_cons_zero, List.set_cons_succ])))
    exact sl_ret rfl (by decide) (vals_tmp rfl (vals_tmp rfl .nil)) ⟨rfl, HM.sub⟩
  by_cases c1 : 4611686018427387904 < s
  · have hcl := hm
    have b0 : decide (s < 0) = false := decide_eq_false (by omega)
    have b1 : decide (4611686018427387904 < s) = true := decide_eq_true (by omega)
    clear hcl c0 c1
    go_enter Try.func60, Try.ntmps60
    go_wp2_with (first | go_step3 | ((with_reducible apply sl_want); exact rfl) | ((with_reducible apply sl_load HM); exact rfl; infer_instance; infer_instance; (try simp only [Act.put, List.setIfInBounds_toArray, List.set_cons_zero, List.set_cons_succ])) | ((with_reducible apply sl_store HM); exact rfl; (first | exact Ev.tmp rfl | exact Ev.const); infer_instance; infer_instance; infer_instance; clear HM; (try clear wq); intro wq HM; (try simp only [Act.put, List.setIfInBounds_toArray, List.set_cons_zero, List.set_cons_succ])) | ((with_reducible apply sl_loadR); exact rfl; assumption; (try simp only [Act.put, List.setIfInBounds_toArray, List.set_cons_zero, List.set_cons_succ])) | ((with_reducible apply sl_loadH HM); exact rfl; assumption; infer_instance; (try simp only [Act.put, List.setIfInBounds_toArray, List.set_cons_zero, List.set_cons_succ])) | ((with_reducible refine gate_dst (N := 1) rfl ?_); (with_reducible apply sl_box HM); (first | exact Ev.tmp rfl | exact Ev.const); exact rfl; clear HM; (try clear wq); intro g1 wq HM; (try simp only [Act.put, List.setIfInBounds_toArray, List.set_cons_zero, List.set_cons_succ])))
    exact sl_ret rfl (by decide) (vals_tmp rfl (vals_tmp rfl .nil)) ⟨rfl, HM.sub⟩
  by_cases c2 : n < 1
  · have hcl := hm
    have b0 : decide (s < 0) = false := decide_eq_false (by omega)
    have b1 : decide (4611686018427387904 < s) = false := decide_eq_false (by omega)
    have b2 : decide (n < 1) = true := decide_eq_true (by omega)
    clear hcl c0 c1 c2
    go_enter Try.func60, Try.ntmps60
    go_wp2_with (first | go_step3 | ((with_reducible apply sl_want); exact rfl) | ((with_reducible apply sl_load HM); exact rfl; infer_instance; infer_instance; (try simp only [Act.put, List.setIfInBounds_toArray, List.set_cons_zero, List.set_cons_succ])) | ((with_reducible apply sl_store HM); exact rfl; (first | exact Ev.tmp rfl | exact Ev.const); infer_instance; infer_instance; infer_instance; clear HM; (try clear wq); intro wq HM; (try simp only [Act.put, List.setIfInBounds_toArray, List.set_cons_zero, List.set_cons_succ])) | ((with_reducible apply sl_loadR); exact rfl; assumption; (try simp only [Act.put, List.setIfInBounds_toArray, List.set_cons_zero, List.set_cons_succ])) | ((with_reducible apply sl_loadH HM); exact rfl; assumption; infer_instance; (try simp only [Act.put, List.setIfInBounds_toArray, List.set_cons_zero, List.set_cons_succ])) | ((with_reducible refine gate_dst (N := 1) rfl ?_); (with_reducible apply sl_box HM); (first | exact Ev.tmp rfl | exact Ev.const); exact rfl; clear HM; (try clear wq); intro g1 wq HM; (try simp only [Act.put, List.setIfInBounds_toArray, List.set_cons_zero, List.set_cons_succ])))
    exact sl_ret rfl (by decide) (vals_tmp rfl (vals_tmp rfl .nil)) ⟨rfl, HM.sub⟩
  by_cases c3 : 4611686018427387904 < n
  · have hcl := hm
    have b0 : decide (s < 0) = false := decide_eq_false (by omega)
    have b1 : decide (4611686018427387904 < s) = false := decide_eq_false (by omega)
    have b2 : decide (n < 1) = false := decide_eq_false (by omega)
    have b3 : decide (4611686018427387904 < n) = true := decide_eq_true (by omega)
    clear hcl c0 c1 c2 c3
    go_enter Try.func60, Try.ntmps60
    go_wp2_with (first | go_step3 | ((with_reducible apply sl_want); exact rfl) | ((with_reducible apply sl_load HM); exact rfl; infer_instance; infer_instance; (try simp only [Act.put, List.setIfInBounds_toArray, List.set_cons_zero, List.set_cons_succ])) | ((with_reducible apply sl_store HM); exact rfl; (first | exact Ev.tmp rfl | exact Ev.const); infer_instance; infer_instance; infer_instance; clear HM; (try clear wq); intro wq HM; (try simp only [Act.put, List.setIfInBounds_toArray, List.set_cons_zero, List.set_cons_succ])) | ((with_reducible apply sl_loadR); exact rfl; assumption; (try simp only [Act.put, List.setIfInBounds_toArray, List.set_cons_zero, List.set_cons_succ])) | ((with_reducible apply sl_loadH HM); exact rfl; assumption; infer_instance; (try simp only [Act.put, List.setIfInBounds_toArray, List.set_cons_zero, List.set_cons_succ])) | ((with_reducible refine gate_dst (N := 1) rfl ?_); (with_reducible apply sl_box HM); (first | exact Ev.tmp rfl | exact Ev.const); exact rfl; clear HM; (try clear wq); intro g1 wq HM; (try simp only [Act.put, List.setIfInBounds_toArray, List.set_cons_zero, List.set_cons_succ])))
    exact sl_ret rfl (by decide) (vals_tmp rfl (vals_tmp rfl .nil)) ⟨rfl, HM.sub⟩
  by_cases c4 : (l.length : Int) < 1
  · have hcl := hm
    have b0 : decide (s < 0) = false := decide_eq_false (by omega)
    have b1 : decide (4611686018427387904 < s) = false := decide_eq_false (by omega)
    have b2 : decide (n < 1) = false := decide_eq_false (by omega)
    have b3 : decide (4611686018427387904 < n) = false := decide_eq_false (by omega)
    have b4 : decide ((l.length : Int) < 1) = true := decide_eq_true (by omega)
    clear hcl c0 c1 c2 c3 c4
    go_enter Try.func60, Try.ntmps60
    go_wp2_with (first | go_step3 | ((with_reducible apply sl_want); exact rfl) | ((with_reducible apply sl_load HM); exact rfl; infer_instance; infer_instance; (try simp only [Act.put, List.setIfInBounds_toArray, List.set_cons_zero, List.set_cons_succ])) | ((with_reducible apply sl_store HM); exact rfl; (first | exact Ev.tmp rfl | exact Ev.const); infer_instance; infer_instance; infer_instance; clear HM; (try clear wq); intro wq HM; (try simp only [Act.put, List.setIfInBounds_toArray, List.set_cons_zero, List.set_cons_succ])) | ((with_reducible apply sl_loadR); exact rfl; assumption; (try simp only [Act.put, List.setIfInBounds_toArray, List.set_cons_zero, List.set_cons_succ])) | ((with_reducible apply sl_loadH HM); exact rfl; assumption; infer_instance; (try simp only [Act.put, List.setIfInBounds_toArray, List.set_cons_zero, List.set_cons_succ])) | ((with_reducible refine gate_dst (N := 1) rfl ?_); (with_reducible apply sl_box HM); (first | exact Ev.tmp rfl | exact Ev.const); exact rfl; clear HM; (try clear wq); intro g1 wq HM; (try simp only [Act.put, List.setIfInBounds_toArray, List.set_cons_zero, List.set_cons_succ])))
    exact sl_ret rfl (by decide) (vals_tmp rfl (vals_tmp rfl .nil)) ⟨rfl, HM.sub⟩
  by_cases c5 : 64 < (l.length : Int)
  · have hcl := hm
    have b0 : decide (s < 0) = false := decide_eq_false (by omega)
    have b1 : decide (4611686018427387904 < s) = false := decide_eq_false (by omega)
    have b2 : decide (n < 1) = false := decide_eq_false (by omega)
    have b3 : decide (4611686018427387904 < n) = false := decide_eq_false (by omega)
    have b4 : decide ((l.length : Int) < 1) = false := decide_eq_false (by omega)
    have b5 : decide (64 < (l.length : Int)) = true := decide_eq_true (by omega)
    clear hcl c0 c1 c2 c3 c4 c5
    go_enter Try.func60, Try.ntmps60
    go_wp2_with (first | go_step3 | ((with_reducible apply sl_want); exact rfl) | ((with_reducible apply sl_load HM); exact rfl; infer_instance; infer_instance; (try simp only [Act.put, List.setIfInBounds_toArray, List.set_cons_zero, List.set_cons_succ])) | ((with_reducible apply sl_store HM); exact rfl; (first | exact Ev.tmp rfl | exact Ev.const); infer_instance; infer_instance; infer_instance; clear HM; (try clear wq); intro wq HM; (try simp only [Act.put, List.setIfInBounds_toArray, List.set_cons_zero, List.set_cons_succ])) | ((with_reducible apply sl_loadR); exact rfl; assumption; (try simp only [Act.put, List.setIfInBounds_toArray, List.set_cons_zero, List.set_cons_succ])) | ((with_reducible apply sl_loadH HM); exact rfl; assumption; infer_instance; (try simp only [Act.put, List.setIfInBounds_toArray, List.set_cons_zero, List.set_cons_succ])) | ((with_reducible refine gate_dst (N := 1) rfl ?_); (with_reducible apply sl_box HM); (first | exact Ev.tmp rfl | exact Ev.const); exact rfl; clear HM; (try clear wq); intro g1 wq HM; (try simp only [Act.put, List.setIfInBounds_toArray, List.set_cons_zero, List.set_cons_succ])))
    exact sl_ret rfl (by decide) (vals_tmp rfl (vals_tmp rfl .nil)) ⟨rfl, HM.sub⟩
  exfalso; have := HO.out; omega

/-- What the document's Encode leaves. -/
def RefPost (s n : Int) (l : List Rec) (w : World) (e : Ending) (w' : World) : Prop := ∃ A c, e = .returned (.tuple #[.slice A (encB s n l).length c, .int .i64 (if batchOk s n l then 0 else 140)]) ∧ Mod w.heap.size w [SL.seen A (bytes (encB s n l))] w'
theorem Mod.seenNil {B : Nat} {w0 w : World} {H : List As} (h : Mod B w0 H w) : Mod B w0 (SL.seen none [] :: H) w :=
  ⟨h.below, h.low, fun _ => False, fun _ hb => hb.elim, ⟨(fun ad hk => by cases hk), Reads.nil _ _⟩, h.sat.up (fun _ hb => ⟨hb, fun hc => hc⟩)⟩
theorem RefPost.no {s n : Int} {l : List Rec} {w w' : World} (h : batchOk s n l = false) (HM : Mod w.heap.size w [] w') : RefPost s n l w (.returned (.tuple #[.slice none 0 0, .int .i64 140])) w' := by
  have e3 : encB s n l = [] := by unfold encB; rw [h]; rfl
  refine ⟨none, 0, by rw [e3, h]; rfl, ?_⟩
  rw [e3]
  exact Mod.seenNil HM

set_option maxHeartbeats 4000000 in
set_option maxRecDepth 100000 in
theorem refEncode_main (s n : Int) (l : List Rec) (hl : Fits l) (A : Option Addr) (c : Nat) (w : World) (hr : Reads w A (recs l)) (h : refHead s n l = true) :
    Calls Try.prog 60 #[.agg #[.int .i64 s, .int .i64 n, .slice A l.length c]] w (RefPost s n l w) := by
  have HO := Aside0.mk h
  have HM := Mod.start w
  obtain ⟨⟨hs0, hs1⟩, ⟨hn0, hn1⟩, hl0, hl64⟩ : (0 ≤ s ∧ s ≤ 4611686018427387904) ∧ (1 ≤ n ∧ n ≤ 4611686018427387904) ∧ 1 ≤ l.length ∧ l.length ≤ 64 := by
    simp only [refHead, inB, Bool.and_eq_true, decide_eq_true_eq] at h
    omega
  have HF := Aside0.mk hl
  have HR := Aside0.mk hr
  have HE := Aside0.mk (head_eq s n l hl64)
  clear hl hr h
  have hn00 : 0 ≤ n := by omega
  have b0 : decide (s < 0) = false := decide_eq_false (by omega); have b1 : decide (4611686018427387904 < s) = false := decide_eq_false (by omega); have b2 : decide (n < 1) = false := decide_eq_false (by omega); have b3 : decide (4611686018427387904 < n) = false := decide_eq_false (by omega); have b4 : decide ((l.length : Int) < 1) = false := decide_eq_false (by omega); have b5 : decide (64 < (l.length : Int)) = false := decide_eq_false (by omega)
  go_enter Try.func60, Try.ntmps60
  go_wp2_with (first | go_step3 | ((with_reducible apply sl_want); exact rfl) | ((with_reducible apply sl_load HM); exact rfl; infer_instance; infer_instance; (try simp only [Act.put, List.setIfInBounds_toArray, List.set_cons_zero, List.set_cons_succ])) | ((with_reducible apply sl_store HM); exact rfl; (first | exact Ev.tmp rfl | exact Ev.const); infer_instance; infer_instance; infer_instance; clear HM; (try clear wq); intro wq HM; (try simp only [Act.put, List.setIfInBounds_toArray, List.set_cons_zero, List.set_cons_succ])) | ((with_reducible apply sl_loadR); exact rfl; assumption; (try simp only [Act.put, List.setIfInBounds_toArray, List.set_cons_zero, List.set_cons_succ])) | ((with_reducible apply sl_loadH HM); exact rfl; assumption; infer_instance; (try simp only [Act.put, List.setIfInBounds_toArray, List.set_cons_zero, List.set_cons_succ])) | ((with_reducible refine gate_dst (N := 1) rfl ?_); (with_reducible apply sl_box HM); (first | exact Ev.tmp rfl | exact Ev.const); exact rfl; clear HM; (try clear wq); intro g1 wq HM; (try simp only [Act.put, List.setIfInBounds_toArray, List.set_cons_zero, List.set_cons_succ])))
  refine wp_drawnS HM [] [(0, 1), (1, 0), (2, 1), (5, 1), (6, 0), (7, 1), (10, 1), (11, 0), (12, 1), (13, 1), (3, 2), (4, 1), (8, 2), (9, 1), (14, 2), (15, 1), (16, 1)] (by kernel_rfl) (by kernel_rfl) (by kernel_rfl) (by kernel_rfl) (fun _ _ d _ _ h => by cases d <;> exact h) ?_; clear HM; (try clear wq); intro wq HM
  repeat (first | ((with_reducible apply t_eff); exact rfl; exact rfl; intro K hK; go_simp; go_at_call 85; (with_reducible refine (low1 _ (by omega) (by omega) _).mono ?_); rintro e wq ⟨rfl, hj⟩; have HM1 := HM.step hj.below; clear HM hj; have HM := HM1; clear HM1; refine hK _ _ _ HM inferInstance ?_; clear hK K; (try simp only [Act.put, List.setIfInBounds_toArray, List.set_cons_zero, List.set_cons_succ])) | ((with_reducible apply t_eff); exact rfl; exact rfl; intro K hK; go_simp; go_at_call 85; (with_reducible refine (low2 _ (by omega) (by omega) _).mono ?_); rintro e wq ⟨rfl, hj⟩; have HM1 := HM.step hj.below; clear HM hj; have HM := HM1; clear HM1; refine hK _ _ _ HM inferInstance ?_; clear hK K; (try simp only [Act.put, List.setIfInBounds_toArray, List.set_cons_zero, List.set_cons_succ])) | ((with_reducible apply t_eff); exact rfl; exact rfl; intro K hK; go_simp; go_at_call 85; (with_reducible refine (low8 _ (by omega) (by omega) _).mono ?_); rintro e wq ⟨rfl, hj⟩; have HM1 := HM.step hj.below; clear HM hj; have HM := HM1; clear HM1; refine hK _ _ _ HM inferInstance ?_; clear hK K; (try simp only [Act.put, List.setIfInBounds_toArray, List.set_cons_zero, List.set_cons_succ])) | ((with_reducible apply t_pure); exact rfl; exact rfl; (focus (intro wv; go_simp; (try simp only [ByteArray.size_append, str_len, beB_len, List.length_append, headB_len]); (rw [if_neg (by omega)]))); (try simp only [Act.put, List.setIfInBounds_toArray, List.set_cons_zero, List.set_cons_succ])) | ((with_reducible apply t_move); exact rfl; exact rfl; (first | exact Ev.tmp rfl | exact Ev.const); (try simp only [Act.put, List.setIfInBounds_toArray, List.set_cons_zero, List.set_cons_succ])) | ((with_reducible apply t_assign); exact rfl; exact rfl; (first | exact Ev.tmp rfl | exact Ev.const); (try simp only [Act.put, List.setIfInBounds_toArray, List.set_cons_zero, List.set_cons_succ])) | ((with_reducible apply t_load HM); exact rfl; exact rfl; exact rfl; infer_instance; infer_instance; infer_instance; (try simp only [Act.put, List.setIfInBounds_toArray, List.set_cons_zero, List.set_cons_succ])) | ((with_reducible apply t_loadH HM); exact rfl; exact rfl; exact rfl; assumption; infer_instance; infer_instance; (try simp only [Act.put, List.setIfInBounds_toArray, List.set_cons_zero, List.set_cons_succ])) | ((with_reducible apply t_skip); exact rfl; exact rfl; (try simp only [Act.put, List.setIfInBounds_toArray, List.set_cons_zero, List.set_cons_succ])) | ((with_reducible apply t_skip0 HM); exact rfl; exact rfl; infer_instance; (try simp only [Act.put, List.setIfInBounds_toArray, List.set_cons_zero, List.set_cons_succ])) | ((with_reducible apply t_skip2 HM); exact rfl; exact rfl; infer_instance; (try simp only [Act.put, List.setIfInBounds_toArray, List.set_cons_zero, List.set_cons_succ])) | ((with_reducible apply t_pure); exact rfl; exact rfl; (focus (intro wv; go_simp; (try (go_ints; (try go_simp))); (first | done | rfl | (rw [if_pos (by omega)]; done)))); (try simp only [Act.put, List.setIfInBounds_toArray, List.set_cons_zero, List.set_cons_succ])))
  refine t_nil ?_
  rw [HE.out]
  go_wp2_with (first | go_step3 | ((with_reducible apply sl_want); exact rfl) | ((with_reducible apply sl_load HM); exact rfl; infer_instance; infer_instance; (try simp only [Act.put, List.setIfInBounds_toArray, List.set_cons_zero, List.set_cons_succ])) | ((with_reducible apply sl_store HM); exact rfl; (first | exact Ev.tmp rfl | exact Ev.const); infer_instance; infer_instance; infer_instance; clear HM; (try clear wq); intro wq HM; (try simp only [Act.put, List.setIfInBounds_toArray, List.set_cons_zero, List.set_cons_succ])) | ((with_reducible apply sl_loadR); exact rfl; assumption; (try simp only [Act.put, List.setIfInBounds_toArray, List.set_cons_zero, List.set_cons_succ])) | ((with_reducible apply sl_loadH HM); exact rfl; assumption; infer_instance; (try simp only [Act.put, List.setIfInBounds_toArray, List.set_cons_zero, List.set_cons_succ])) | ((with_reducible refine gate_dst (N := 1) rfl ?_); (with_reducible apply sl_box HM); (first | exact Ev.tmp rfl | exact Ev.const); exact rfl; clear HM; (try clear wq); intro g1 wq HM; (try simp only [Act.put, List.setIfInBounds_toArray, List.set_cons_zero, List.set_cons_succ])))
  go_loopw [4, 5] (fun v4 v5 wr => ∃ (k : Nat) (S : ByteArray), v4 = .string S ∧ v5 = .int .i64 k ∧ k ≤ l.length ∧ S.size ≤ 19 + k * 42 ∧ Aside0 (S = strOfNums (headB s n l ++ (l.take k).flatMap recB)) ∧ Aside0 ((l.take k).all Rec.ok = true) ∧ Aside0 (Mod w.heap.size w [cells g1 [.int .i64 s, .int .i64 n, .slice A l.length c] 32] wr)) (fun _ v5 _ => l.length - (intOf v5).toNat)
  case atStart => exact ⟨0, _, rfl, rfl, by omega, by rw [str_len, headB_len]; omega, ⟨by simp⟩, ⟨rfl⟩, ⟨HM.sub⟩⟩
  case round =>
    obtain ⟨k, S, rfl, rfl, hk, hS, HS, HA, HM0⟩ := hrel
    clear HM
    have HM := HM0.out
    clear HM0
    by_cases hlt : k < l.length
    · have hr := (HR.out.below HM.below)
      obtain ⟨ad, rfl⟩ := hr.addr (by rw [flat_len rec_len]; omega)
      obtain ⟨r, hrk⟩ : ∃ r, l[k]? = some r := ⟨_, List.getElem?_eq_getElem hlt⟩
      have hld : Aside0 (∀ w', Mod w.heap.size w [] w' → Sem.run Try.prog (Instr.loadAt 54 (.pointer (some (ad.add (k * 8))))) w' = .ok (.agg r.cells.toArray) w') := ⟨fun w' h => load_seg (HR.out.below h.below) (k * 8) (flat_seg rec_len l k r hrk) (rec_len r)⟩
      have HFr := Aside0.mk (HF.out r (List.mem_of_getElem? hrk))
      have HK := Aside0.mk hrk
      clear hrk hr
      by_cases hok : r.ok = true
      · have HOK := Aside0.mk hok
        go_wp2_with (first | (go_at_call 44; (with_reducible refine (right14_calls r (Nat.le_trans HFr.out.1 (by decide)) (Nat.le_trans HFr.out.2 (by decide)) _).mono ?_); rintro e wq ⟨rfl, hj⟩; have HM1 := HM.step hj.below; clear HM hj; have HM := HM1; clear HM1) | (go_at_call 90; refine (text_any r HOK.out _).mono ?_; rintro e wq ⟨S2, rfl, hs2, HS2, hj⟩; have HM1 := HM.step hj.below; clear HM hj; have HM := HM1; clear HM1) | go_step3 | ((with_reducible apply sl_want); exact rfl) | ((with_reducible apply sl_load HM); exact rfl; infer_instance; infer_instance; (try simp only [Act.put, List.setIfInBounds_toArray, List.set_cons_zero, List.set_cons_succ])) | ((with_reducible apply sl_store HM); exact rfl; (first | exact Ev.tmp rfl | exact Ev.const); infer_instance; infer_instance; infer_instance; clear HM; (try clear wq); intro wq HM; (try simp only [Act.put, List.setIfInBounds_toArray, List.set_cons_zero, List.set_cons_succ])) | ((with_reducible apply sl_loadR); exact rfl; assumption; (try simp only [Act.put, List.setIfInBounds_toArray, List.set_cons_zero, List.set_cons_succ])) | ((with_reducible apply sl_loadH HM); exact rfl; assumption; infer_instance; (try simp only [Act.put, List.setIfInBounds_toArray, List.set_cons_zero, List.set_cons_succ])) | ((with_reducible refine gate_dst (N := 1) rfl ?_); (with_reducible apply sl_box HM); (first | exact Ev.tmp rfl | exact Ev.const); exact rfl; clear HM; (try clear wq); intro g1 wq HM; (try simp only [Act.put, List.setIfInBounds_toArray, List.set_cons_zero, List.set_cons_succ])))
        have e1 : S ++ S2 = strOfNums (headB s n l ++ (l.take (k + 1)).flatMap recB) := by
          rw [HS.out, HS2.out, str_app, List.take_add_one, HK.out, Option.toList_some, List.flatMap_append, List.flatMap_cons, List.flatMap_nil, List.append_nil, List.append_assoc]
        have e2 : (l.take (k + 1)).all Rec.ok = true := by
          rw [List.take_add_one, HK.out, List.all_append, HA.out]
          simpa using HOK.out
        refine ⟨⟨k + 1, _, rfl, rfl, hlt, by rw [ByteArray.size_append]; omega, ⟨e1⟩, ⟨e2⟩, ⟨HM.sub⟩⟩, ?_⟩
        show l.length - ((k + 1 : Nat) : Int).toNat < l.length - (k : Int).toNat
        omega
      · have hok' : r.ok = false := by simpa using hok
        clear hok
        have e2 : batchOk s n l = false := by
          rw [Bool.eq_false_iff]
          intro hc
          simp only [batchOk, Bool.and_eq_true] at hc
          have := List.all_eq_true.1 hc.2 r (List.mem_of_getElem? HK.out)
          rw [hok'] at this
          cases this
        have E2 := Aside0.mk e2
        clear e2
        go_wp2_with (first | (go_at_call 44; (with_reducible refine (right14_calls r (Nat.le_trans HFr.out.1 (by decide)) (Nat.le_trans HFr.out.2 (by decide)) _).mono ?_); rintro e wq ⟨rfl, hj⟩; have HM1 := HM.step hj.below; clear HM hj; have HM := HM1; clear HM1) | go_step3 | ((with_reducible apply sl_want); exact rfl) | ((with_reducible apply sl_load HM); exact rfl; infer_instance; infer_instance; (try simp only [Act.put, List.setIfInBounds_toArray, List.set_cons_zero, List.set_cons_succ])) | ((with_reducible apply sl_store HM); exact rfl; (first | exact Ev.tmp rfl | exact Ev.const); infer_instance; infer_instance; infer_instance; clear HM; (try clear wq); intro wq HM; (try simp only [Act.put, List.setIfInBounds_toArray, List.set_cons_zero, List.set_cons_succ])) | ((with_reducible apply sl_loadR); exact rfl; assumption; (try simp only [Act.put, List.setIfInBounds_toArray, List.set_cons_zero, List.set_cons_succ])) | ((with_reducible apply sl_loadH HM); exact rfl; assumption; infer_instance; (try simp only [Act.put, List.setIfInBounds_toArray, List.set_cons_zero, List.set_cons_succ])) | ((with_reducible refine gate_dst (N := 1) rfl ?_); (with_reducible apply sl_box HM); (first | exact Ev.tmp rfl | exact Ev.const); exact rfl; clear HM; (try clear wq); intro g1 wq HM; (try simp only [Act.put, List.setIfInBounds_toArray, List.set_cons_zero, List.set_cons_succ])))
        exact sl_ret rfl (by simp) (vals_tmp rfl (vals_tmp rfl .nil)) (RefPost.no E2.out HM.sub)
    · have hkl : k = l.length := by omega
      subst hkl
      have e0 : S = strOfNums (batchB s n l) := by rw [HS.out, List.take_length]; rfl
      have a0 := HA.out
      rw [List.take_length] at a0
      have hb : batchOk s n l = decide (19 + (l.flatMap recB).length ≤ 1400) := by rw [batchOk_ref, HO.out, a0]; rfl
      have hz : S.size = 19 + (l.flatMap recB).length := by rw [e0, str_len, batchB, List.length_append, headB_len]
      by_cases hlong : S.size ≤ 1400
      · have e1 : batchOk s n l = true := by rw [hb]; exact decide_eq_true (by omega)
        have e2 : encB s n l = batchB s n l := by unfold encB; rw [e1]; rfl
        have E1 := Aside0.mk e1
        have E2 := Aside0.mk e2
        have E0 := Aside0.mk e0
        clear e1 e2 e0 a0 hb hz
        go_wp2_with (first | ((with_reducible refine gate_dst (N := 78) rfl ?_); (with_reducible apply sl_bytes HM Try.underlying9 Try.underlying73 Try.underlying5); (first | exact Ev.tmp rfl | exact Ev.const); clear HM; (try clear wq); intro v78 c78 wq HM; (try simp only [Act.put, List.setIfInBounds_toArray, List.set_cons_zero, List.set_cons_succ])) | go_step3 | ((with_reducible apply sl_want); exact rfl) | ((with_reducible apply sl_load HM); exact rfl; infer_instance; infer_instance; (try simp only [Act.put, List.setIfInBounds_toArray, List.set_cons_zero, List.set_cons_succ])) | ((with_reducible apply sl_store HM); exact rfl; (first | exact Ev.tmp rfl | exact Ev.const); infer_instance; infer_instance; infer_instance; clear HM; (try clear wq); intro wq HM; (try simp only [Act.put, List.setIfInBounds_toArray, List.set_cons_zero, List.set_cons_succ])) | ((with_reducible apply sl_loadR); exact rfl; assumption; (try simp only [Act.put, List.setIfInBounds_toArray, List.set_cons_zero, List.set_cons_succ])) | ((with_reducible apply sl_loadH HM); exact rfl; assumption; infer_instance; (try simp only [Act.put, List.setIfInBounds_toArray, List.set_cons_zero, List.set_cons_succ])) | ((with_reducible refine gate_dst (N := 1) rfl ?_); (with_reducible apply sl_box HM); (first | exact Ev.tmp rfl | exact Ev.const); exact rfl; clear HM; (try clear wq); intro g1 wq HM; (try simp only [Act.put, List.setIfInBounds_toArray, List.set_cons_zero, List.set_cons_succ])))
        refine sl_ret rfl (by simp) (vals_tmp rfl (vals_tmp rfl .nil)) (show RefPost s n l w _ _ from ⟨v78, c78, ?_, ?_⟩)
        · rw [E1.out, E2.out, E0.out, str_len]; rfl
        · rw [E2.out, ← (Byt.batch s n l).cells, ← E0.out]
          exact HM.sub
      · have e1 : batchOk s n l = false := by rw [hb]; exact decide_eq_false (by omega)
        have E1 := Aside0.mk e1
        clear e1 e0 a0 hb hz
        go_wp2_with (first | go_step3 | ((with_reducible apply sl_want); exact rfl) | ((with_reducible apply sl_load HM); exact rfl; infer_instance; infer_instance; (try simp only [Act.put, List.setIfInBounds_toArray, List.set_cons_zero, List.set_cons_succ])) | ((with_reducible apply sl_store HM); exact rfl; (first | exact Ev.tmp rfl | exact Ev.const); infer_instance; infer_instance; infer_instance; clear HM; (try clear wq); intro wq HM; (try simp only [Act.put, List.setIfInBounds_toArray, List.set_cons_zero, List.set_cons_succ])) | ((with_reducible apply sl_loadR); exact rfl; assumption; (try simp only [Act.put, List.setIfInBounds_toArray, List.set_cons_zero, List.set_cons_succ])) | ((with_reducible apply sl_loadH HM); exact rfl; assumption; infer_instance; (try simp only [Act.put, List.setIfInBounds_toArray, List.set_cons_zero, List.set_cons_succ])) | ((with_reducible refine gate_dst (N := 1) rfl ?_); (with_reducible apply sl_box HM); (first | exact Ev.tmp rfl | exact Ev.const); exact rfl; clear HM; (try clear wq); intro g1 wq HM; (try simp only [Act.put, List.setIfInBounds_toArray, List.set_cons_zero, List.set_cons_succ])))
        exact sl_ret rfl (by simp) (vals_tmp rfl (vals_tmp rfl .nil)) (RefPost.no E1.out HM.sub)
theorem refEncode_calls (s n : Int) (l : List Rec) (hl : Fits l) (A : Option Addr) (c : Nat) (hm : l.length ≤ maxLen) (w : World) (hr : Reads w A (recs l)) :
    Calls Try.prog 60 #[.agg #[.int .i64 s, .int .i64 n, .slice A l.length c]] w (RefPost s n l w) := by
  cases h : refHead s n l with
  | true => exact refEncode_main s n l hl A c w hr h
  | false =>
    refine (refEncode_head s n l A c hm w h).mono fun e w' hj => ?_
    have e1 : batchOk s n l = false := by rw [batchOk_ref, h]; rfl
    rw [hj.1]
    exact RefPost.no e1 hj.2
end Go.Proofs.Ytghfoooldcbdnaa
