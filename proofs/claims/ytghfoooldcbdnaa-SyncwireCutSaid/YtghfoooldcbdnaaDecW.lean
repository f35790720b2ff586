/-
  Decode OF PACKAGE syncwire: bytes read as a batch, or refused.
-/
import Derived.Test.YtghfoooldcbdnaaTaker
set_option linter.unusedVariables false
set_option linter.unusedSimpArgs false
namespace Go.Proofs.Ytghfoooldcbdnaa
open Go.RowKit Go.Proofs.Ytghfoooldcbdnaa.SL Go.Proofs.YtghfoooldcbdnaaW.PrintWords

/-- What is left, and whether it was ever too little. -/
abbrev Fd := List Int × Bool
def Fd.y (f : Fd) (n : Nat) : List Int := tkY f.1 n
def Fd.nx (f : Fd) (n : Nat) : Fd := (tkR f.1 n, tkS f.1 f.2 n)
def pRec (f : Fd) : Rec × Fd :=
  let f1 := f.nx 1
  let n := (numB (f1.y 1)).toNat
  let f2 := f1.nx 1
  let f3 := f2.nx n
  let f4 := f3.nx n
  let f5 := f4.nx 2
  let f6 := f5.nx 2
  let f7 := f6.nx 1
  let f8 := f7.nx 1
  (⟨numB (f.y 1), strOfNums (f2.y n), strOfNums (f3.y n), numB (f4.y 2), numB (f5.y 2), numB (f6.y 1), numB (f7.y 1), numB (f8.y 2)⟩, f8.nx 2)
def pRecs : Nat → Fd → List Rec × Fd
  | 0, f => ([], f)
  | k + 1, f => ((pRecs k f).1 ++ [(pRec (pRecs k f).2).1], (pRec (pRecs k f).2).2)
/-- What the program makes of bytes. -/
def pdec (xs : List Int) : Option (Int × Int × List Rec) :=
  if xs.length < 19 ∨ 1400 < xs.length ∨ xs.getD 0 0 ≠ 83 ∨ xs.getD 1 0 ≠ 1 then none else
  let f0 : Fd := (xs.drop 2, false)
  let f1 := f0.nx 8
  let f2 := f1.nx 8
  let p := pRecs (numB (f2.y 1)).toNat (f2.nx 1)
  if (p.2.2 || !p.2.1.isEmpty) || !batchOk (numB (f0.y 8)) (numB (f1.y 8)) p.1 then none else some (numB (f0.y 8), numB (f1.y 8), p.1)

/-- What take goes on with. -/
structure FdF (B : Nat) (w0 : World) (H0 : List As) (f : Fd) (v : Value) : Prop where
  feed : Feed B w0 H0 f.1 v
  byt : ∀ x ∈ f.1, 0 ≤ x ∧ x < 256
  len : f.1.length ≤ 1000000
def TkPost (f : Fd) (n gb gs : Nat) (B : Nat) (w0 : World) (H0 H : List As) (e : Ending) (w' : World) : Prop :=
  ∃ A' c' v' f' ys, e = .returned (.slice A' n c') ∧ Aside0 (f' = f.nx n) ∧ Aside0 (ys = f.y n) ∧ Aside0 (ys.length = n ∧ (∀ x ∈ ys, 0 ≤ x ∧ x < 256) ∧ Reads w' A' (bytes ys)) ∧ Aside0 (FdF B w0 H0 f' v') ∧ Mod B w0 (cells gb [v'] 73 :: cells gs [.bool f'.2] 4 :: H) w'
theorem take_any (f : Fd) (v : Value) (n gb gs : Nat) (hn : n ≤ 1000) (B : Nat) (w0 w : World) (H0 H : List As) [hs : Sub H0 H] (hv : Aside0 (FdF B w0 H0 f v)) (HM : Mod B w0 (cells gb [v] 73 :: cells gs [.bool f.2] 4 :: H) w) :
    Calls Try.prog 92 #[.int .i64 n, .pointer (some ⟨gb, 0, none⟩), .pointer (some ⟨gs, 0, none⟩)] w (TkPost f n gb gs B w0 H0 H) := by
  obtain ⟨h1, h2, h3⟩ := hv.out
  refine (take_calls f.1 f.2 v n gb gs hn B w0 w H0 H h1 HM h3).mono fun e w' => ?_
  rintro ⟨A', c', v', rfl, k1, k2, k3⟩
  refine ⟨A', c', v', f.nx n, f.y n, rfl, ⟨rfl⟩, ⟨rfl⟩, ⟨tkY_len _ _, byt_take h2 n, k1⟩, ⟨⟨k2, byt_drop h2 n, ?_⟩⟩, k3⟩
  show (tkR f.1 n).length ≤ 1000000
  unfold tkR
  split
  · simp
  · rw [List.length_drop]; omega
theorem take_1 (f : Fd) (v : Value) (gb gs : Nat) (B : Nat) (w0 w : World) (H0 H : List As) [hs : Sub H0 H] (hv : Aside0 (FdF B w0 H0 f v)) (HM : Mod B w0 (cells gb [v] 73 :: cells gs [.bool f.2] 4 :: H) w) :
    Calls Try.prog 92 #[.int .i64 1, .pointer (some ⟨gb, 0, none⟩), .pointer (some ⟨gs, 0, none⟩)] w (TkPost f 1 gb gs B w0 H0 H) := take_any f v 1 gb gs (by decide) B w0 w H0 H hv HM
theorem take_2 (f : Fd) (v : Value) (gb gs : Nat) (B : Nat) (w0 w : World) (H0 H : List As) [hs : Sub H0 H] (hv : Aside0 (FdF B w0 H0 f v)) (HM : Mod B w0 (cells gb [v] 73 :: cells gs [.bool f.2] 4 :: H) w) :
    Calls Try.prog 92 #[.int .i64 2, .pointer (some ⟨gb, 0, none⟩), .pointer (some ⟨gs, 0, none⟩)] w (TkPost f 2 gb gs B w0 H0 H) := take_any f v 2 gb gs (by decide) B w0 w H0 H hv HM
theorem take_8 (f : Fd) (v : Value) (gb gs : Nat) (B : Nat) (w0 w : World) (H0 H : List As) [hs : Sub H0 H] (hv : Aside0 (FdF B w0 H0 f v)) (HM : Mod B w0 (cells gb [v] 73 :: cells gs [.bool f.2] 4 :: H) w) :
    Calls Try.prog 92 #[.int .i64 8, .pointer (some ⟨gb, 0, none⟩), .pointer (some ⟨gs, 0, none⟩)] w (TkPost f 8 gb gs B w0 H0 H) := take_any f v 8 gb gs (by decide) B w0 w H0 H hv HM
theorem number_any (ys : List Int) (n : Nat) (A : Option Addr) (c : Nat) (w : World) (h : Aside0 (ys.length = n ∧ (∀ x ∈ ys, 0 ≤ x ∧ x < 256) ∧ Reads w A (bytes ys))) (hn : n ≤ 8) :
    Calls Try.prog 78 #[.slice A n c] w fun e w' => ∃ z, e = .returned (.int .i64 z) ∧ Aside0 (z = numB ys) ∧ w = w' := by
  obtain ⟨rfl, h2, h3⟩ := h.out
  exact (number_calls ys A c w h3 hn h2).mono fun e w' h => ⟨_, h.1, ⟨rfl⟩, h.2⟩
theorem numB_one (ys : List Int) (h : ys.length = 1) (hb : ∀ x ∈ ys, 0 ≤ x ∧ x < 256) : ∃ m : Nat, numB ys = m ∧ m ≤ 255 := by
  match ys, h with
  | [x], _ =>
    have := hb x (by simp)
    have e : valB [x] = x := by simp [valB]
    refine ⟨x.toNat, ?_, by omega⟩
    unfold numB
    rw [e, if_neg (by omega)]
    omega
theorem number_1 (ys : List Int) (A : Option Addr) (c : Nat) (w : World) (h : Aside0 (ys.length = 1 ∧ (∀ x ∈ ys, 0 ≤ x ∧ x < 256) ∧ Reads w A (bytes ys))) :
    Calls Try.prog 78 #[.slice A 1 c] w fun e w' => ∃ m : Nat, e = .returned (.int .i64 m) ∧ m ≤ 255 ∧ Aside0 (numB ys = m) ∧ w = w' := by
  obtain ⟨h1, h2, h3⟩ := h.out
  obtain ⟨m, e1, e2⟩ := numB_one ys h1 h2
  refine (number_any ys 1 A c w h (by decide)).mono fun e w' => ?_
  rintro ⟨z, rfl, hz, rfl⟩
  exact ⟨m, by rw [hz.out, e1], e2, ⟨e1⟩, rfl⟩

/-- What Decode leaves. -/
def DecPost (xs : List Int) (w : World) (e : Ending) (w' : World) : Prop :=
  ∃ (s n : Int) (l : List Rec) (v : Value) (er : Int), e = .returned (.tuple #[.agg #[.int .i64 s, .int .i64 n, v], .int .i64 er]) ∧ Mod w.heap.size w [row v 53 8 l.length (recs l)] w' ∧ Aside0 ((pdec xs = none ∧ s = 0 ∧ n = 0 ∧ l = [] ∧ er = 140) ∨ (pdec xs = some (s, n, l) ∧ er = 0))
theorem DecPost.no {xs : List Int} {w w' : World} (h : pdec xs = none) (HM : Mod w.heap.size w [] w') : DecPost xs w (.returned (.tuple #[.agg #[.int .i64 0, .int .i64 0, .slice none 0 0], .int .i64 140])) w' :=
  ⟨0, 0, [], .slice none 0 0, 140, rfl, HM.nilRow 53 8, ⟨.inl ⟨h, rfl, rfl, rfl, rfl⟩⟩⟩

set_option maxHeartbeats 2000000 in
set_option maxRecDepth 100000 in
theorem Decode_head (xs : List Int) (A : Option Addr) (c : Nat) (hm : xs.length ≤ maxLen) (w : World) (hr : Reads w A (bytes xs)) (h : xs.length < 19 ∨ 1400 < xs.length ∨ xs.getD 0 0 ≠ 83 ∨ xs.getD 1 0 ≠ 1) :
    Calls Try.prog 38 #[.slice A xs.length c] w (DecPost xs w) := by
  have HM := Mod.start w
  have HR := Aside0.mk hr
  have HP : Aside0 (pdec xs = none) := ⟨by unfold pdec; rw [if_pos h]⟩
  unfold maxLen at hm
  clear hr
  by_cases c0 : xs.length < 19
  · have b0 : decide ((xs.length : Int) < 19) = true := decide_eq_true (by omega)
    clear c0 h
    go_enter Try.func38, Try.ntmps38
    go_wp2_with (first | go_step3 | ((with_reducible apply sl_want); exact rfl) | ((with_reducible apply sl_load HM); exact rfl; infer_instance; infer_instance; (try simp only [Act.put, List.setIfInBounds_toArray, List.set_cons_zero, List.set_cons_succ])) | ((with_reducible apply sl_store HM); exact rfl; (first | exact Ev.tmp rfl | exact Ev.const); infer_instance; infer_instance; infer_instance; clear HM; (try clear wq); intro wq HM; (try simp only [Act.put, List.setIfInBounds_toArray, List.set_cons_zero, List.set_cons_succ])) | ((with_reducible apply sl_loadR); exact rfl; assumption; (try simp only [Act.put, List.setIfInBounds_toArray, List.set_cons_zero, List.set_cons_succ])) | ((with_reducible apply sl_loadH HM); exact rfl; assumption; infer_instance; (try simp only [Act.put, List.setIfInBounds_toArray, List.set_cons_zero, List.set_cons_succ])) | ((with_reducible refine gate_dst (N := 2) rfl ?_); (with_reducible apply sl_alloc HM); infer_instance; clear HM; (try clear wq); intro g2 wq HM; (try simp only [Act.put, List.setIfInBounds_toArray, List.set_cons_zero, List.set_cons_succ])) | ((with_reducible refine gate_dst (N := 6) rfl ?_); (with_reducible apply sl_alloc HM); infer_instance; clear HM; (try clear wq); intro g6 wq HM; (try simp only [Act.put, List.setIfInBounds_toArray, List.set_cons_zero, List.set_cons_succ])) | ((with_reducible refine gate_dst (N := 7) rfl ?_); (with_reducible apply sl_alloc HM); infer_instance; clear HM; (try clear wq); intro g7 wq HM; (try simp only [Act.put, List.setIfInBounds_toArray, List.set_cons_zero, List.set_cons_succ])) | ((with_reducible refine gate_dst (N := 95) rfl ?_); (with_reducible apply sl_lit HM); (focus (go_simp; (try rfl); done)); clear HM; (try clear wq); intro g95 wq HM; (try simp only [Act.put, List.setIfInBounds_toArray, List.set_cons_zero, List.set_cons_succ])) | ((with_reducible refine gate_dst (N := 96) rfl ?_); (with_reducible apply sl_append_lit HM); (first | exact Ev.tmp rfl | exact Ev.const); infer_instance; (first | exact Ev.tmp rfl | exact Ev.const); infer_instance; infer_instance; exact rfl; infer_instance; (first | omega | (simp only [List.length_append, List.length_cons, List.length_nil] at *; omega)); clear HM; (try clear wq); intro v96 wq HM; (try simp only [Act.put, List.setIfInBounds_toArray, List.set_cons_zero, List.set_cons_succ]); haveI := HM.rowOne v96))
    exact sl_ret rfl (by simp) (vals_cell HM rfl inferInstance inferInstance rfl (vals_tmp rfl .nil)) (DecPost.no HP.out HM.sub)
  · have b0 : decide ((xs.length : Int) < 19) = false := decide_eq_false (by omega)
    by_cases c1 : 1400 < xs.length
    · have b1 : decide (1400 < (xs.length : Int)) = true := decide_eq_true (by omega)
      clear c0 c1 h
      go_enter Try.func38, Try.ntmps38
      go_wp2_with (first | go_step3 | ((with_reducible apply sl_want); exact rfl) | ((with_reducible apply sl_load HM); exact rfl; infer_instance; infer_instance; (try simp only [Act.put, List.setIfInBounds_toArray, List.set_cons_zero, List.set_cons_succ])) | ((with_reducible apply sl_store HM); exact rfl; (first | exact Ev.tmp rfl | exact Ev.const); infer_instance; infer_instance; infer_instance; clear HM; (try clear wq); intro wq HM; (try simp only [Act.put, List.setIfInBounds_toArray, List.set_cons_zero, List.set_cons_succ])) | ((with_reducible apply sl_loadR); exact rfl; assumption; (try simp only [Act.put, List.setIfInBounds_toArray, List.set_cons_zero, List.set_cons_succ])) | ((with_reducible apply sl_loadH HM); exact rfl; assumption; infer_instance; (try simp only [Act.put, List.setIfInBounds_toArray, List.set_cons_zero, List.set_cons_succ])) | ((with_reducible refine gate_dst (N := 2) rfl ?_); (with_reducible apply sl_alloc HM); infer_instance; clear HM; (try clear wq); intro g2 wq HM; (try simp only [Act.put, List.setIfInBounds_toArray, List.set_cons_zero, List.set_cons_succ])) | ((with_reducible refine gate_dst (N := 6) rfl ?_); (with_reducible apply sl_alloc HM); infer_instance; clear HM; (try clear wq); intro g6 wq HM; (try simp only [Act.put, List.setIfInBounds_toArray, List.set_cons_zero, List.set_cons_succ])) | ((with_reducible refine gate_dst (N := 7) rfl ?_); (with_reducible apply sl_alloc HM); infer_instance; clear HM; (try clear wq); intro g7 wq HM; (try simp only [Act.put, List.setIfInBounds_toArray, List.set_cons_zero, List.set_cons_succ])) | ((with_reducible refine gate_dst (N := 95) rfl ?_); (with_reducible apply sl_lit HM); (focus (go_simp; (try rfl); done)); clear HM; (try clear wq); intro g95 wq HM; (try simp only [Act.put, List.setIfInBounds_toArray, List.set_cons_zero, List.set_cons_succ])) | ((with_reducible refine gate_dst (N := 96) rfl ?_); (with_reducible apply sl_append_lit HM); (first | exact Ev.tmp rfl | exact Ev.const); infer_instance; (first | exact Ev.tmp rfl | exact Ev.const); infer_instance; infer_instance; exact rfl; infer_instance; (first | omega | (simp only [List.length_append, List.length_cons, List.length_nil] at *; omega)); clear HM; (try clear wq); intro v96 wq HM; (try simp only [Act.put, List.setIfInBounds_toArray, List.set_cons_zero, List.set_cons_succ]); haveI := HM.rowOne v96))
      exact sl_ret rfl (by simp) (vals_cell HM rfl inferInstance inferInstance rfl (vals_tmp rfl .nil)) (DecPost.no HP.out HM.sub)
    · have b1 : decide (1400 < (xs.length : Int)) = false := decide_eq_false (by omega)
      obtain ⟨ad, rfl⟩ := HR.out.addr (by simp; omega)
      have hld : Aside0 (∀ w', Mod w.heap.size w [] w' → Sem.run Try.prog (Instr.loadAt 5 (.pointer (some (ad.add 0)))) w' = .ok (.int .u8 (xs.getD 0 0)) w') := ⟨fun w' h => load_one (HR.out.below h.below) 0 (by rw [List.getElem?_map, List.getD_eq_getElem?_getD, List.getElem?_eq_getElem (by omega)]; rfl)⟩
      have hld1 : Aside0 (∀ w', Mod w.heap.size w [] w' → Sem.run Try.prog (Instr.loadAt 5 (.pointer (some (ad.add 1)))) w' = .ok (.int .u8 (xs.getD 1 0)) w') := ⟨fun w' h => load_one (HR.out.below h.below) 1 (by rw [List.getElem?_map, List.getD_eq_getElem?_getD, List.getElem?_eq_getElem (by omega)]; rfl)⟩
      have h2 : xs.getD 0 0 ≠ 83 ∨ xs.getD 1 0 ≠ 1 := by
        rcases h with h | h | h
        · exact absurd h c0
        · exact absurd h c1
        · exact h
      have hlen : 19 ≤ xs.length := by omega
      obtain ⟨x0, e0⟩ : ∃ x, x = xs.getD 0 0 := ⟨_, rfl⟩
      obtain ⟨x1, e1⟩ : ∃ x, x = xs.getD 1 0 := ⟨_, rfl⟩
      rw [← e0] at hld h2
      rw [← e1] at hld1 h2
      clear c0 c1 e0 e1 h
      by_cases c2 : x0 = 83
      · have c3 : (x1 != 1) = true := by
          rcases h2 with h2 | h2
          · exact absurd c2 h2
          · simpa using h2
        have b2 : (x0 != 83) = false := by simpa using c2
        clear c2 h2
        go_enter Try.func38, Try.ntmps38
        go_wp2_with (first | go_step3 | ((with_reducible apply sl_want); exact rfl) | ((with_reducible apply sl_load HM); exact rfl; infer_instance; infer_instance; (try simp only [Act.put, List.setIfInBounds_toArray, List.set_cons_zero, List.set_cons_succ])) | ((with_reducible apply sl_store HM); exact rfl; (first | exact Ev.tmp rfl | exact Ev.const); infer_instance; infer_instance; infer_instance; clear HM; (try clear wq); intro wq HM; (try simp only [Act.put, List.setIfInBounds_toArray, List.set_cons_zero, List.set_cons_succ])) | ((with_reducible apply sl_loadR); exact rfl; assumption; (try simp only [Act.put, List.setIfInBounds_toArray, List.set_cons_zero, List.set_cons_succ])) | ((with_reducible apply sl_loadH HM); exact rfl; assumption; infer_instance; (try simp only [Act.put, List.setIfInBounds_toArray, List.set_cons_zero, List.set_cons_succ])) | ((with_reducible refine gate_dst (N := 2) rfl ?_); (with_reducible apply sl_alloc HM); infer_instance; clear HM; (try clear wq); intro g2 wq HM; (try simp only [Act.put, List.setIfInBounds_toArray, List.set_cons_zero, List.set_cons_succ])) | ((with_reducible refine gate_dst (N := 6) rfl ?_); (with_reducible apply sl_alloc HM); infer_instance; clear HM; (try clear wq); intro g6 wq HM; (try simp only [Act.put, List.setIfInBounds_toArray, List.set_cons_zero, List.set_cons_succ])) | ((with_reducible refine gate_dst (N := 7) rfl ?_); (with_reducible apply sl_alloc HM); infer_instance; clear HM; (try clear wq); intro g7 wq HM; (try simp only [Act.put, List.setIfInBounds_toArray, List.set_cons_zero, List.set_cons_succ])) | ((with_reducible refine gate_dst (N := 95) rfl ?_); (with_reducible apply sl_lit HM); (focus (go_simp; (try rfl); done)); clear HM; (try clear wq); intro g95 wq HM; (try simp only [Act.put, List.setIfInBounds_toArray, List.set_cons_zero, List.set_cons_succ])) | ((with_reducible refine gate_dst (N := 96) rfl ?_); (with_reducible apply sl_append_lit HM); (first | exact Ev.tmp rfl | exact Ev.const); infer_instance; (first | exact Ev.tmp rfl | exact Ev.const); infer_instance; infer_instance; exact rfl; infer_instance; (first | omega | (simp only [List.length_append, List.length_cons, List.length_nil] at *; omega)); clear HM; (try clear wq); intro v96 wq HM; (try simp only [Act.put, List.setIfInBounds_toArray, List.set_cons_zero, List.set_cons_succ]); haveI := HM.rowOne v96))
        exact sl_ret rfl (by simp) (vals_cell HM rfl inferInstance inferInstance rfl (vals_tmp rfl .nil)) (DecPost.no HP.out HM.sub)
      · have b2 : (x0 != 83) = true := by simpa using c2
        clear c2 h2
        go_enter Try.func38, Try.ntmps38
        go_wp2_with (first | go_step3 | ((with_reducible apply sl_want); exact rfl) | ((with_reducible apply sl_load HM); exact rfl; infer_instance; infer_instance; (try simp only [Act.put, List.setIfInBounds_toArray, List.set_cons_zero, List.set_cons_succ])) | ((with_reducible apply sl_store HM); exact rfl; (first | exact Ev.tmp rfl | exact Ev.const); infer_instance; infer_instance; infer_instance; clear HM; (try clear wq); intro wq HM; (try simp only [Act.put, List.setIfInBounds_toArray, List.set_cons_zero, List.set_cons_succ])) | ((with_reducible apply sl_loadR); exact rfl; assumption; (try simp only [Act.put, List.setIfInBounds_toArray, List.set_cons_zero, List.set_cons_succ])) | ((with_reducible apply sl_loadH HM); exact rfl; assumption; infer_instance; (try simp only [Act.put, List.setIfInBounds_toArray, List.set_cons_zero, List.set_cons_succ])) | ((with_reducible refine gate_dst (N := 2) rfl ?_); (with_reducible apply sl_alloc HM); infer_instance; clear HM; (try clear wq); intro g2 wq HM; (try simp only [Act.put, List.setIfInBounds_toArray, List.set_cons_zero, List.set_cons_succ])) | ((with_reducible refine gate_dst (N := 6) rfl ?_); (with_reducible apply sl_alloc HM); infer_instance; clear HM; (try clear wq); intro g6 wq HM; (try simp only [Act.put, List.setIfInBounds_toArray, List.set_cons_zero, List.set_cons_succ])) | ((with_reducible refine gate_dst (N := 7) rfl ?_); (with_reducible apply sl_alloc HM); infer_instance; clear HM; (try clear wq); intro g7 wq HM; (try simp only [Act.put, List.setIfInBounds_toArray, List.set_cons_zero, List.set_cons_succ])) | ((with_reducible refine gate_dst (N := 95) rfl ?_); (with_reducible apply sl_lit HM); (focus (go_simp; (try rfl); done)); clear HM; (try clear wq); intro g95 wq HM; (try simp only [Act.put, List.setIfInBounds_toArray, List.set_cons_zero, List.set_cons_succ])) | ((with_reducible refine gate_dst (N := 96) rfl ?_); (with_reducible apply sl_append_lit HM); (first | exact Ev.tmp rfl | exact Ev.const); infer_instance; (first | exact Ev.tmp rfl | exact Ev.const); infer_instance; infer_instance; exact rfl; infer_instance; (first | omega | (simp only [List.length_append, List.length_cons, List.length_nil] at *; omega)); clear HM; (try clear wq); intro v96 wq HM; (try simp only [Act.put, List.setIfInBounds_toArray, List.set_cons_zero, List.set_cons_succ]); haveI := HM.rowOne v96))
        exact sl_ret rfl (by simp) (vals_cell HM rfl inferInstance inferInstance rfl (vals_tmp rfl .nil)) (DecPost.no HP.out HM.sub)
end Go.Proofs.Ytghfoooldcbdnaa
