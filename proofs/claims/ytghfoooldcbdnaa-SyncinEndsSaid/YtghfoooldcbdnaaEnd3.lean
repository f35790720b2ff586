/-
  PART 3 OF THE PROOF OF SyncinEnds: laid together from the proof's own texts: Ops3, Wire, Room, Lay.
-/
import Derived.Outline
import Derived.Test.YtghfoooldcbdnaaEnd2
set_option linter.unusedVariables false
set_option linter.unusedSimpArgs false
namespace Go.Proofs.Ytghfoooldcbdnaa.SL
open Go.RowKit Go.Proofs.YtghfoooldcbdnaaW.PrintWords
/-- Where a slice of a slice lies. -/
def subA (A : Option Addr) (l c sz : Nat) : Option Addr := if c = l then A else A.map (·.add (l * sz))
theorem Reads.take {w : World} {A : Option Addr} {cs : List Value} (h : Reads w A cs) (n : Nat) : Reads w A (cs.take n) := by
  intro j u hu
  refine h j u ?_
  have hj : j < n := by
    have := (List.getElem?_eq_some_iff.1 hu).1
    rw [List.length_take] at this
    omega
  rwa [List.getElem?_take_of_lt hj] at hu
theorem Reads.drop {w : World} {A : Option Addr} {cs : List Value} (h : Reads w A cs) (l c sz : Nat) (hc : cs.length ≤ c * sz) : Reads w (subA A l c sz) (cs.drop (l * sz)) := by
  intro j u hu
  unfold subA
  by_cases hcl : c = l
  · subst hcl
    rw [List.drop_eq_nil_of_le hc] at hu
    simp at hu
  · rw [if_neg hcl]
    rw [List.getElem?_drop] at hu
    obtain ⟨ad, rfl, h2⟩ := h _ u hu
    exact ⟨_, rfl, by rw [add_add']; exact h2⟩
section
variable {P : Program} {ops : Array Oper} {rest : List Oper} {a : Act} {Q : Exit → Act → World → Prop} {B : Nat} {w0 w : World} {H H' R HS : List As}
variable {dst : Option Tmp} {ty : TypeId} {pos : String} {after : Array Edge} {gd : Option (Nat × Bool)} {K : Act → World → Prop} {S : World → Prop} {i : Nat} {p : List (Nat × Nat)}
variable {t e : TypeId} {sz n c l h : Nat} {A : Option Addr} {x lo up : Operand} {kl kh : IntKind}
theorem run_sizeOf (hi : (P.info? e).map (·.size) = some sz) : (sizeOf e).run P w = .ok sz w := by
  obtain ⟨i, h1, h2⟩ := Option.map_eq_some_iff.1 hi
  simp [sizeOf, typeInfo, h1, h2]
theorem run_subL (ht : P.underlying t = some (.slice e)) (hi : (P.info? e).map (·.size) = some sz) (hl : l ≤ n) :
    (Instr.slice t (.slice A n c) (some (.int kl l)) none none).run P w = .ok (.slice (subA A l c sz) (n - l) (c - l)) w := by
  have hs := run_sizeOf (w := w) hi
  have hb := run_sliceBound (P := P) (w := w) kl (l : Int) n .sliceB (by omega) (by omega)
  simp [Instr.slice, run_underlying ht, Instr.sliceBounds, hb, hs, subA]
theorem run_subH (ht : P.underlying t = some (.slice e)) (hi : (P.info? e).map (·.size) = some sz) (hl : h ≤ c) :
    (Instr.slice t (.slice A n c) none (some (.int kh h)) none).run P w = .ok (.slice A h c) w := by
  have hs := run_sizeOf (w := w) hi
  have hb := run_sliceBound (P := P) (w := w) kh (h : Int) c .sliceAcap (by omega) (by omega)
  have e0 : ∀ ad : Addr, ad.add 0 = ad := fun ad => by unfold Addr.add; simp
  have e1 : A.map (fun ad => ad.add 0) = A := by cases A <;> simp [e0]
  by_cases hc : c = 0
  · subst hc; simp [Instr.slice, run_underlying ht, Instr.sliceBounds, hb, hs]
  · simp [Instr.slice, run_underlying ht, Instr.sliceBounds, hb, hs, hc, e1]
theorem run_subLH (ht : P.underlying t = some (.slice e)) (hi : (P.info? e).map (·.size) = some sz) (hl : l ≤ h) (hc : h ≤ c) :
    (Instr.slice t (.slice A n c) (some (.int kl l)) (some (.int kh h)) none).run P w = .ok (.slice (subA A l c sz) (h - l) (c - l)) w := by
  have hs := run_sizeOf (w := w) hi
  have hb := run_sliceBound (P := P) (w := w) kh (h : Int) c .sliceAcap (by omega) (by omega)
  have hb2 := run_sliceBound (P := P) (w := w) kl (l : Int) h .sliceB (by omega) (by omega)
  simp [Instr.slice, run_underlying ht, Instr.sliceBounds, hb, hb2, hs, subA]
theorem elem_of (ht : P.underlying t = some (.slice e)) : P.underlying t = some (.slice (P.elem t)) := by rw [ht]; simp [Program.elem, ht]
theorem ex_subL (hx : Ev a x (.slice A n c)) (hlo : Ev a lo (.int kl l)) (ht : P.underlying t = some (.slice e)) (hi : (P.info? e).map (·.size) = some sz) (hl : l ≤ n) :
    (execOp a.eval ⟨dst, .slice t x (some lo) none none, ty, pos, after, gd⟩).run P w = .ok (.value (.slice (subA A l c sz) (n - l) (c - l))) w := by
  simp only [execOp, hx.eq, hlo.eq, Option.map_some, Option.map_none, Sem.run_bind, run_sliceAt_slice (h := elem_of ht), run_subL ht hi hl, Result.andThen_ok, Sem.run_pure]
theorem ex_subH (hx : Ev a x (.slice A n c)) (hhi : Ev a up (.int kh h)) (ht : P.underlying t = some (.slice e)) (hi : (P.info? e).map (·.size) = some sz) (hl : h ≤ c) :
    (execOp a.eval ⟨dst, .slice t x none (some up) none, ty, pos, after, gd⟩).run P w = .ok (.value (.slice A h c)) w := by
  simp only [execOp, hx.eq, hhi.eq, Option.map_some, Option.map_none, Sem.run_bind, run_sliceAt_slice (h := elem_of ht), run_subH ht hi hl, Result.andThen_ok, Sem.run_pure]
theorem ex_subLH (hx : Ev a x (.slice A n c)) (hlo : Ev a lo (.int kl l)) (hhi : Ev a up (.int kh h)) (ht : P.underlying t = some (.slice e)) (hi : (P.info? e).map (·.size) = some sz) (hl : l ≤ h) (hc : h ≤ c) :
    (execOp a.eval ⟨dst, .slice t x (some lo) (some up) none, ty, pos, after, gd⟩).run P w = .ok (.value (.slice (subA A l c sz) (h - l) (c - l))) w := by
  simp only [execOp, hx.eq, hlo.eq, hhi.eq, Option.map_some, Option.map_none, Sem.run_bind, run_sliceAt_slice (h := elem_of ht), run_subLH ht hi hl hc, Result.andThen_ok, Sem.run_pure]
theorem sl_subL (l : Nat) (hx : Ev a x (.slice A n c)) (hlo : Ev a lo (.int kl l)) (ht : P.underlying t = some (.slice e)) (hi : (P.info? e).map (·.size) = some sz) (hl : l ≤ n)
    (k : wpList P ops Q rest (a.put dst (.slice (subA A l c sz) (n - l) (c - l))) w) : wpList P ops Q (⟨dst, .slice t x (some lo) none none, ty, pos, after, none⟩ :: rest) a w :=
  Kd.event_run rfl (ex_subL hx hlo ht hi hl) k
theorem sl_subLH (l h : Nat) (hx : Ev a x (.slice A n c)) (hlo : Ev a lo (.int kl l)) (hhi : Ev a up (.int kh h)) (ht : P.underlying t = some (.slice e)) (hi : (P.info? e).map (·.size) = some sz) (hl : l ≤ h) (hc : h ≤ c)
    (k : wpList P ops Q rest (a.put dst (.slice (subA A l c sz) (h - l) (c - l))) w) : wpList P ops Q (⟨dst, .slice t x (some lo) (some up) none, ty, pos, after, none⟩ :: rest) a w :=
  Kd.event_run rfl (ex_subLH hx hlo hhi ht hi hl hc) k
theorem t_subL (l : Nat) (ho : ops.toList[i]? = some ⟨dst, .slice t x (some lo) none none, ty, pos, after, gd⟩) (hw : Region.wanted ⟨dst, .slice t x (some lo) none none, ty, pos, after, gd⟩ (yielded ops a.tmps) = true)
    (hx : Ev a x (.slice A n c)) (hlo : Ev a lo (.int kl l)) (ht : P.underlying t = some (.slice e)) (hi : (P.info? e).map (·.size) = some sz) (hl : l ≤ n)
    (k : wpT P ops Q S p (a.put dst (.slice (subA A l c sz) (n - l) (c - l))) w) : wpT P ops Q S ((i, 1) :: p) a w :=
  t_pure ho hw (fun w => ex_subL hx hlo ht hi hl) k
end
end Go.Proofs.Ytghfoooldcbdnaa.SL
set_option linter.unusedVariables false
set_option linter.unusedSimpArgs false
namespace Go.Proofs.Ytghfoooldcbdnaa
open Go.RowKit Go.Proofs.Ytghfoooldcbdnaa.SL Go.Proofs.YtghfoooldcbdnaaW.PrintWords

/-- A record. -/
structure Rec where
  pr : Int
  fr : ByteArray
  tt : ByteArray
  po : Int
  de : Int
  ba : Int
  st : Int
  le : Int
  deriving DecidableEq
abbrev Rec.cells (r : Rec) : List Value := [.int .i64 r.pr, .string r.fr, .string r.tt, .int .i64 r.po, .int .i64 r.de, .int .i64 r.ba, .int .i64 r.st, .int .i64 r.le]

def inB (n a b : Int) : Bool := decide (a ≤ n) && decide (n ≤ b)
def okA (s : ByteArray) : Bool := s.size == 4 || s.size == 16

set_option maxHeartbeats 400000 in
theorem within_calls (n a b : Int) (w : World) : Calls Try.prog 72 #[.int .i64 n, .int .i64 a, .int .i64 b] w fun e w' => e = .returned (.bool (inB n a b)) ∧ w = w' := by
  by_cases h1 : a ≤ n
  · by_cases h2 : n ≤ b
    · have e : inB n a b = true := by simp [inB, h1, h2]
      have E := Aside0.mk e
      clear e
      go_enter Try.func72, Try.ntmps72
      go_wp2
      refine sl_ret1 rfl (vals_tmp rfl .nil) ⟨by rw [E.out], rfl⟩
    · have e : inB n a b = false := by simp [inB, h2]
      have E := Aside0.mk e
      clear e
      go_enter Try.func72, Try.ntmps72
      go_wp2
      refine sl_ret1 rfl (vals_tmp rfl .nil) ⟨by rw [E.out], rfl⟩
  · have e : inB n a b = false := by simp [inB, h1]
    have E := Aside0.mk e
    clear e
    go_enter Try.func72, Try.ntmps72
    go_wp2
    refine sl_ret1 rfl (vals_tmp rfl .nil) ⟨by rw [E.out], rfl⟩

set_option maxHeartbeats 400000 in
theorem ipvRight_calls (s : ByteArray) (hs : s.size ≤ maxLen) (w : World) : Calls Try.prog 91 #[.string s] w fun e w' => e = .returned (.bool (okA s)) ∧ w = w' := by
  unfold maxLen at hs
  have E : Aside0 (okA s = ((s.size : Int) == 4 || (s.size : Int) == 16)) := ⟨by unfold okA; rw [Bool.eq_iff_iff]; simp; omega⟩
  go_enter Try.func91, Try.ntmps91
  go_wp2
  all_goals (refine sl_ret1 rfl (vals_tmp rfl .nil) ⟨by first | (rw [E.out]; done) | (rw [E.out]; simp [*]), rfl⟩)


/-- A record that may be. -/
def Rec.ok (r : Rec) : Bool := inB r.pr 0 255 && (okA r.fr && (((r.fr.size : Int) == (r.tt.size : Int)) && (inB r.po 0 65535 && (inB r.de 0 65535 && (inB r.ba 0 15 && (inB r.st 1 4 && inB r.le 0 65535))))))

set_option maxHeartbeats 1000000 in
theorem Right_calls (r : Rec) (h1 : r.fr.size ≤ maxLen) (h2 : r.tt.size ≤ maxLen) (w : World) : Calls Try.prog 68 #[.agg r.cells.toArray] w fun e w' => e = .returned (.bool r.ok) ∧ Mod w.heap.size w [] w' := by
  obtain ⟨pr, fr, tt, po, de, ba, st, le⟩ := r
  have HM := Mod.start w
  have L2 := Aside0.mk h1
  unfold maxLen at h1 h2
  simp only [Rec.cells]
  go_enter Try.func68, Try.ntmps68
  go_wp2_with (first | (go_at_call 72; refine (within_calls _ _ _ _).mono ?_; rintro e w1 ⟨rfl, rfl⟩) | (go_at_call 91; refine (ipvRight_calls _ L2.out _).mono ?_; rintro e w1 ⟨rfl, rfl⟩) | go_step3 | ((with_reducible apply sl_want); exact rfl) | ((with_reducible apply sl_load HM); exact rfl; infer_instance; infer_instance; (try simp only [Act.put, List.setIfInBounds_toArray, List.set_cons_zero, List.set_cons_succ])) | ((with_reducible apply sl_store HM); exact rfl; (first | exact Ev.tmp rfl | exact Ev.const); infer_instance; infer_instance; infer_instance; clear HM; (try clear wq); intro wq HM; (try simp only [Act.put, List.setIfInBounds_toArray, List.set_cons_zero, List.set_cons_succ])) | ((with_reducible apply sl_loadR); exact rfl; assumption; (try simp only [Act.put, List.setIfInBounds_toArray, List.set_cons_zero, List.set_cons_succ])) | ((with_reducible refine gate_dst (N := 1) rfl ?_); (with_reducible apply sl_box HM); (first | exact Ev.tmp rfl | exact Ev.const); exact rfl; clear HM; (try clear wq); intro g1 wq HM; (try simp only [Act.put, List.setIfInBounds_toArray, List.set_cons_zero, List.set_cons_succ])) | ((with_reducible refine gate_dst (N := 3) rfl ?_); (with_reducible apply sl_alloc HM); infer_instance; clear HM; (try clear wq); intro g3 wq HM; (try simp only [Act.put, List.setIfInBounds_toArray, List.set_cons_zero, List.set_cons_succ])))
  all_goals (refine sl_ret1 rfl (vals_tmp rfl .nil) ⟨by simp [Rec.ok, *], HM.sub⟩)


abbrev Rec.size (r : Rec) : Nat := 10 + r.fr.size + r.tt.size
set_option maxHeartbeats 400000 in
theorem size_calls (r : Rec) (h1 : r.fr.size ≤ 140737488355328) (h2 : r.tt.size ≤ 140737488355328) (w : World) : Calls Try.prog 83 #[.agg r.cells.toArray] w fun e w' => e = .returned (.int .i64 r.size) ∧ Mod w.heap.size w [] w' := by
  obtain ⟨pr, fr, tt, po, de, ba, st, le⟩ := r
  have HM := Mod.start w
  simp only [Rec.cells, Rec.size]
  simp only at h1 h2
  go_enter Try.func83, Try.ntmps83
  go_wp2_with (first | go_step3 | ((with_reducible apply sl_want); exact rfl) | ((with_reducible apply sl_load HM); exact rfl; infer_instance; infer_instance; (try simp only [Act.put, List.setIfInBounds_toArray, List.set_cons_zero, List.set_cons_succ])) | ((with_reducible apply sl_store HM); exact rfl; (first | exact Ev.tmp rfl | exact Ev.const); infer_instance; infer_instance; infer_instance; clear HM; (try clear wq); intro wq HM; (try simp only [Act.put, List.setIfInBounds_toArray, List.set_cons_zero, List.set_cons_succ])) | ((with_reducible apply sl_loadR); exact rfl; assumption; (try simp only [Act.put, List.setIfInBounds_toArray, List.set_cons_zero, List.set_cons_succ])) | ((with_reducible refine gate_dst (N := 1) rfl ?_); (with_reducible apply sl_box HM); (first | exact Ev.tmp rfl | exact Ev.const); exact rfl; clear HM; (try clear wq); intro g1 wq HM; (try simp only [Act.put, List.setIfInBounds_toArray, List.set_cons_zero, List.set_cons_succ])))
  refine sl_ret1 rfl (vals_tmp rfl .nil) ⟨by simp, HM.sub⟩

/-- How many records a batch takes: n bytes so far, k records so far. -/
def roomGo : Nat → Nat → List Rec → Nat
  | _, k, [] => k
  | n, k, r :: l => if 64 ≤ k ∨ 1400 < n + r.size then k else roomGo (n + r.size) (k + 1) l
def room (l : List Rec) : Nat := roomGo 19 0 l

end Go.Proofs.Ytghfoooldcbdnaa
set_option linter.unusedVariables false
set_option linter.unusedSimpArgs false
namespace Go.Proofs.Ytghfoooldcbdnaa
open Go.RowKit Go.Proofs.Ytghfoooldcbdnaa.SL Go.Proofs.YtghfoooldcbdnaaW.PrintWords

theorem rec_len (r : Rec) : r.cells.length = 8 := rfl
abbrev recs (l : List Rec) : List Value := l.flatMap Rec.cells
/-- No record's texts are past the form's reach. -/
def Fits (l : List Rec) : Prop := ∀ r ∈ l, r.fr.size ≤ 140737488355328 ∧ r.tt.size ≤ 140737488355328

theorem roomGo_at : ∀ (l : List Rec) (n k : Nat), roomGo n k l ≤ k + l.length
  | [], _, _ => by simp [roomGo]
  | r :: l, n, k => by
    unfold roomGo
    split
    · omega
    · have := roomGo_at l (n + r.size) (k + 1)
      simp only [List.length_cons]; omega

set_option maxHeartbeats 1000000 in
set_option maxRecDepth 100000 in
theorem Room_calls (l : List Rec) (hl : Fits l) (A : Option Addr) (c : Nat) (hm : l.length ≤ maxLen) (w : World) (hr : Reads w A (recs l)) :
    Calls Try.prog 47 #[.slice A l.length c] w fun e w' => e = .returned (.int .i64 (room l)) ∧ Mod w.heap.size w [] w' := by
  have HM := Mod.start w
  unfold maxLen at hm
  have HR := Aside0.mk hr
  have HL := Aside0.mk hl
  clear hr hl
  go_enter Try.func47, Try.ntmps47
  go_wp2
  go_loopw [3, 8] (fun v3 v8 wr => ∃ (k n : Nat), v3 = .int .i64 n ∧ v8 = .int .i64 k ∧ k ≤ l.length ∧ n ≤ 1400 ∧ Aside0 (room l = roomGo n k (l.drop k)) ∧ Aside0 (Mod w.heap.size w [] wr)) (fun _ v8 _ => l.length - (intOf v8).toNat)
  case atStart => exact ⟨0, 19, rfl, rfl, by omega, by omega, ⟨by simp [room]⟩, ⟨HM⟩⟩
  case round =>
    obtain ⟨k, n, rfl, rfl, hk, hn, HE, HM0⟩ := hrel
    clear HM
    have HM := HM0.out
    clear HM0
    by_cases hlt : k < l.length
    · have hr := (HR.out.below HM.below)
      obtain ⟨ad, rfl⟩ := hr.addr (by rw [flat_len rec_len]; omega)
      obtain ⟨r, hrk⟩ : ∃ r, l[k]? = some r := ⟨_, List.getElem?_eq_getElem hlt⟩
      have hld := Aside0.mk (load_seg (P := Try.prog) (t := 53) hr (k * 8) (flat_seg rec_len l k r hrk) (rec_len r))
      have hfit := HL.out r (List.mem_of_getElem? hrk)
      have hd : l.drop k = r :: l.drop (k + 1) := by rw [List.drop_eq_getElem_cons hlt]; simp [List.getElem?_eq_getElem hlt] at hrk; rw [hrk]
      have HE' := HE.out
      rw [hd, roomGo] at HE'
      have HE2 := Aside0.mk HE'
      clear HE' hd hrk
      have HF := Aside0.mk hfit
      have hs0 : r.size ≤ 281474976710666 := by unfold Rec.size; omega
      go_wp2_with (first | (go_at_call 83; refine (size_calls r HF.out.1 HF.out.2 _).mono ?_; rintro e wq ⟨rfl, hj⟩; have HM1 := HM.step hj.below; clear HM hj; have HM := HM1; clear HM1) | go_step3 | ((with_reducible apply sl_want); exact rfl) | ((with_reducible apply sl_load HM); exact rfl; infer_instance; infer_instance; (try simp only [Act.put, List.setIfInBounds_toArray, List.set_cons_zero, List.set_cons_succ])) | ((with_reducible apply sl_store HM); exact rfl; (first | exact Ev.tmp rfl | exact Ev.const); infer_instance; infer_instance; infer_instance; clear HM; (try clear wq); intro wq HM; (try simp only [Act.put, List.setIfInBounds_toArray, List.set_cons_zero, List.set_cons_succ])) | ((with_reducible apply sl_loadR); exact rfl; assumption; (try simp only [Act.put, List.setIfInBounds_toArray, List.set_cons_zero, List.set_cons_succ])) | ((with_reducible refine gate_dst (N := 5) rfl ?_); (with_reducible apply sl_alloc HM); infer_instance; clear HM; (try clear wq); intro g5 wq HM; (try simp only [Act.put, List.setIfInBounds_toArray, List.set_cons_zero, List.set_cons_succ])))
      · have hsz : r.size = 10 + r.fr.size + r.tt.size := rfl
        refine sl_ret1 rfl (vals_tmp rfl .nil) ⟨?_, HM.sub⟩
        rw [HE2.out, if_pos (by omega)]
      · have hsz : r.size = 10 + r.fr.size + r.tt.size := rfl
        refine ⟨⟨k + 1, n + r.size, by simp, by simp, by omega, by omega, ⟨?_⟩, ⟨HM.sub⟩⟩, by simp [intOf]; omega⟩
        rw [HE2.out, if_neg (by omega)]
      · have hsz : r.size = 10 + r.fr.size + r.tt.size := rfl
        refine sl_ret1 rfl (vals_tmp rfl .nil) ⟨?_, HM.sub⟩
        rw [HE2.out, if_pos (by omega)]
    · go_wp2
      refine sl_ret1 rfl (vals_tmp rfl .nil) ⟨?_, HM.sub⟩
      have : k = l.length := by omega
      rw [HE.out, this, List.drop_length]; rfl
end Go.Proofs.Ytghfoooldcbdnaa
set_option linter.unusedVariables false
set_option linter.unusedSimpArgs false
namespace Go.Proofs.Ytghfoooldcbdnaa
open Go.RowKit Go.Proofs.Ytghfoooldcbdnaa.SL Go.Proofs.YtghfoooldcbdnaaW.PrintWords

/-- The lowest k bytes of a number, the highest first. -/
def beB : Nat → Int → List Int
  | 0, _ => []
  | k + 1, n => (n / 2 ^ (8 * k)) % 256 :: beB k n
theorem beB_len (n : Int) : ∀ k, (beB k n).length = k
  | 0 => rfl
  | k + 1 => by simp [beB, beB_len n k]
abbrev bytes (l : List Int) : List Value := l.map (Value.int .u8)
instance bytes_ones (l : List Int) : Ones (bytes l) := ⟨by intro u hu; obtain ⟨x, _, rfl⟩ := List.mem_map.1 hu; rfl⟩

set_option maxHeartbeats 1000000 in
set_option maxRecDepth 100000 in
theorem layInt_calls (v : Value) (m : Nat) (xs : List Int) (n : Int) (long : Nat) (hn : 0 ≤ n) (hn2 : n ≤ 4611686018427387904) (hlong : long ≤ 8) (hm : m ≤ 1000000) (B : Nat) (w0 w : World) (H : List As) (HM : Mod B w0 (row v 5 1 m (bytes xs) :: H) w) :
    Calls Try.prog 73 #[v, .int .i64 n, .int .i64 long] w fun e w' => ∃ v', e = .returned v' ∧ Mod B w0 (row v' 5 1 (m + long) (bytes (xs ++ beB long n)) :: H) w' := by
  go_enter Try.func73, Try.ntmps73
  go_wp2_with (first | go_step3 | ((with_reducible apply sl_want); exact rfl) | ((with_reducible apply sl_load HM); exact rfl; infer_instance; infer_instance; (try simp only [Act.put, List.setIfInBounds_toArray, List.set_cons_zero, List.set_cons_succ])) | ((with_reducible apply sl_store HM); exact rfl; (first | exact Ev.tmp rfl | exact Ev.const); infer_instance; infer_instance; infer_instance; clear HM; (try clear wq); intro wq HM; (try simp only [Act.put, List.setIfInBounds_toArray, List.set_cons_zero, List.set_cons_succ])) | ((with_reducible apply sl_loadR); exact rfl; assumption; (try simp only [Act.put, List.setIfInBounds_toArray, List.set_cons_zero, List.set_cons_succ])) | ((with_reducible refine gate_dst (N := 20) rfl ?_); (with_reducible apply sl_lit HM); (focus (go_simp; (try rfl); done)); clear HM; (try clear wq); intro g20 wq HM; (try simp only [Act.put, List.setIfInBounds_toArray, List.set_cons_zero, List.set_cons_succ])) | ((with_reducible refine gate_dst (N := 21) rfl ?_); (with_reducible apply sl_append_lit HM); (first | exact Ev.tmp rfl | exact Ev.const); infer_instance; (first | exact Ev.tmp rfl | exact Ev.const); infer_instance; infer_instance; exact rfl; infer_instance; (first | omega | (simp only [List.length_append, List.length_cons, List.length_nil] at *; omega)); clear HM; (try clear wq); intro v21 wq HM; (try simp only [Act.put, List.setIfInBounds_toArray, List.set_cons_zero, List.set_cons_succ]); haveI := HM.rowOne v21))
  go_loopw [0, 7] (fun v0 v7 wr => ∃ (k : Nat), k ≤ long ∧ v7 = .int .i64 ((k : Int) - 1) ∧ ∃ ys, Aside0 (Mod B w0 (row v0 5 1 (m + (long - k)) (bytes (xs ++ ys)) :: H) wr) ∧ Aside0 (ys ++ beB k n = beB long n)) (fun _ v7 _ => (intOf v7 + 1).toNat)
  case atStart => exact ⟨long, Nat.le_refl _, rfl, [], ⟨by simpa using HM⟩, ⟨rfl⟩⟩
  case round =>
    obtain ⟨k, hk, rfl, ys, HM0, HE⟩ := hrel
    clear HM
    have HM := HM0.out
    clear HM0
    cases k with
    | zero =>
      go_wp2
      have hys : ys = beB long n := by simpa [beB] using HE.out
      subst hys
      exact sl_ret1 rfl (vals_tmp rfl .nil) ⟨_, rfl, HM⟩
    | succ k =>
      go_wp2_with (first | go_step3 | ((with_reducible apply sl_want); exact rfl) | ((with_reducible apply sl_load HM); exact rfl; infer_instance; infer_instance; (try simp only [Act.put, List.setIfInBounds_toArray, List.set_cons_zero, List.set_cons_succ])) | ((with_reducible apply sl_store HM); exact rfl; (first | exact Ev.tmp rfl | exact Ev.const); infer_instance; infer_instance; infer_instance; clear HM; (try clear wq); intro wq HM; (try simp only [Act.put, List.setIfInBounds_toArray, List.set_cons_zero, List.set_cons_succ])) | ((with_reducible apply sl_loadR); exact rfl; assumption; (try simp only [Act.put, List.setIfInBounds_toArray, List.set_cons_zero, List.set_cons_succ])) | ((with_reducible refine gate_dst (N := 20) rfl ?_); (with_reducible apply sl_lit HM); (focus (go_simp; (try rfl); done)); clear HM; (try clear wq); intro g20 wq HM; (try simp only [Act.put, List.setIfInBounds_toArray, List.set_cons_zero, List.set_cons_succ])) | ((with_reducible refine gate_dst (N := 21) rfl ?_); (with_reducible apply sl_append_lit HM); (first | exact Ev.tmp rfl | exact Ev.const); infer_instance; (first | exact Ev.tmp rfl | exact Ev.const); infer_instance; infer_instance; exact rfl; infer_instance; (first | omega | (simp only [List.length_append, List.length_cons, List.length_nil] at *; omega)); clear HM; (try clear wq); intro v21 wq HM; (try simp only [Act.put, List.setIfInBounds_toArray, List.set_cons_zero, List.set_cons_succ]); haveI := HM.rowOne v21))
      refine ⟨⟨k, by omega, rfl, ys ++ [n / 2 ^ (8 * k) % 256], ⟨?_⟩, ⟨by have := HE.out; simpa [beB] using this⟩⟩, by simp [intOf]⟩
      have e1 : m + (long - (k + 1)) + 1 = m + (long - k) := by omega
      have e2 : bytes (xs ++ ys) ++ [Value.int IntKind.u8 (n / 2 ^ (8 * k) % 256)] = bytes (xs ++ (ys ++ [n / 2 ^ (8 * k) % 256])) := by simp
      rw [e1, e2] at HM
      exact HM.sub
end Go.Proofs.Ytghfoooldcbdnaa
