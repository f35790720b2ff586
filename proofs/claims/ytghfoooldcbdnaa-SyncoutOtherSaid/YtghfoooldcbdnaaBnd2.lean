/-
  THE SENDER OF PACKAGE syncout, as the laws of layer 15 walk over it: what they know of it, and what they ask of it.
-/
import Derived.Test.YtghfoooldcbdnaaBnd0
import Derived.Test.YtghfoooldcbdnaaBnd1
import Derived.Test.YtghfoooldcbdnaaSeen15
set_option linter.unusedVariables false
set_option linter.unusedSimpArgs false
namespace Go.Proofs.Ytghfoooldcbdnaa
open Go.RowKit Go.Proofs.Ytghfoooldcbdnaa.SL Go.Proofs.YtghfoooldcbdnaaW.PrintWords
/-- A sender behind k operations. -/
structure SB (S : SS) (k : Nat) (s : Int) : Prop where
  ok : S.p.Ok k
  bat : S.p.Bat
  ss : S.s = s
  sr : 0 ≤ s ∧ s ≤ 4611686018427387904
theorem SB.mono {S : SS} {k j : Nat} {s : Int} (h : SB S k s) (hk : k ≤ j) : SB S j s := ⟨h.ok.mono hk, h.bat, h.ss, h.sr⟩
theorem SB.new (s ev : Int) (h : mayS s ev = true) : SB (SS.new s ev) 0 s := by
  obtain ⟨⟨h1, h2⟩, h3, h4⟩ : (0 ≤ s ∧ s ≤ 4611686018427387904) ∧ (1 ≤ ev ∧ ev ≤ 10000) := by simpa [mayS, inB, and_assoc] using h
  exact ⟨new_ok s ev ⟨h3, h4⟩, fun x hx => by simp [SS.new, SS.p] at hx, rfl, h1, h2⟩
theorem SB.add {S S1 : SS} {k : Nat} {s : Int} (h : SB S k s) {r : Rec} (h1 : S1.p = (S.p.add r).1) : SB S1 (k + 1) s :=
  ⟨by rw [h1]; exact h.ok.add r, by rw [h1]; exact h.bat.add r, by rw [show S1.s = S1.p.s from rfl, h1, (add_rg S.p r).2.1]; exact h.ss, h.sr⟩
theorem SB.take {S S1 : SS} {k : Nat} {s : Int} (h : SB S k s) {as0 an af now : Int} {ag : Bool} (h1 : S1.p = (S.p.take as0 an ag af now).1) : SB S1 k s :=
  ⟨by rw [h1]; exact h.ok.take _ _ _ _ _, by rw [h1]; exact h.bat.take _ _ _ _ _, by rw [show S1.s = S1.p.s from rfl, h1, (take_nx S.p as0 an ag af now).2]; exact h.ss, h.sr⟩
theorem SB.sends {S S1 : SS} {k : Nat} {s : Int} (h : SB S k s) (hk : k ≤ 1000000) {now : Int} (h1 : S1.p = (S.p.sends now).1) : SB S1 k s := by
  have hb := h.bat.sends h.ok hk (by rw [show S.p.s = S.s from rfl, h.ss]; exact h.sr) now
  exact ⟨by rw [h1]; exact h.ok.sends now, by rw [h1]; exact hb.1, by rw [show S1.s = S1.p.s from rfl, h1, hb.2.1]; exact h.ss, h.sr⟩
theorem SB.out {S : SS} {k : Nat} {s : Int} (h : SB S k s) (hk : k ≤ 1000000) (now : Int) : ∀ b ∈ (S.p.sends now).2, batchOk s b.1 b.2 = true := by
  have hb := (h.bat.sends h.ok hk (by rw [show S.p.s = S.s from rfl, h.ss]; exact h.sr) now).2.2
  rw [show S.p.s = S.s from rfl, h.ss] at hb
  exact hb
theorem SB.lens {S : SS} {k : Nat} {s : Int} (h : SB S k s) : decide (256 < (S.p.q.length : Int)) = false ∧ decide (16 < (S.p.rg.length : Int)) = false :=
  ⟨decide_eq_false (by have := h.ok.ql; omega), decide_eq_false (by have := h.ok.rg; omega)⟩
/-- A script's operation, as it lies. -/
abbrev OpE.cs (o : OpE) : List Value := [.int .i64 o.kind, .int .i64 o.now, .int .i64 o.r.pr, .string o.r.fr, .string o.r.tt, .int .i64 o.r.po, .int .i64 o.r.de, .int .i64 o.r.ba, .int .i64 o.r.st, .int .i64 o.r.le, .int .i64 o.as0, .int .i64 o.an, .bool o.ag, .int .u64 o.af]
theorem ope_load {w : World} {ad : Addr} {l : List OpE} (h : Reads w (some ad) (l.flatMap OpE.cells)) {k : Nat} {o : OpE} (ho : l[k]? = some o) : (Instr.loadAt 70 (.pointer (some (ad.add (k * 14))))).run Try.prog w = .ok (.agg o.cs.toArray) w :=
  load_seg h (k * 14) (flat_seg ope_len l k o ho) (ope_len o)
theorem bt_load {B : Nat} {w0 w : World} {H R : List As} {ad : Addr} {c n : Nat} {s : Int} {bl : List Bt} [hv : Row H (.slice (some ad) n c) 61 3 n (bts s bl) R] (h : SL.Mod B w0 H w) {j : Nat} {b : Bt} (hb : bl[j]? = some b) : (Instr.loadAt 61 (.pointer (some (ad.add (j * 3))))).run Try.prog w = .ok (.agg (b.cells s).toArray) w :=
  load_seg (ownsRow_reads (h.rowOwn (.slice (some ad) n c))).1 (j * 3) (flat_seg (bt_len s) bl j b hb) (bt_len s b)
theorem bt_addr {B : Nat} {w0 w : World} {H R : List As} {A : Option Addr} {c n : Nat} {s : Int} {bl : List Bt} [hv : Row H (.slice A n c) 61 3 n (bts s bl) R] (h : SL.Mod B w0 H w) {j : Nat} {b : Bt} (hb : bl[j]? = some b) : ∃ ad, A = some ad :=
  (ownsRow_reads (h.rowOwn (.slice A n c))).1.addr (by rw [flat_len (bt_len s)]; have := (List.getElem?_eq_some_iff.1 hb).1; omega)
theorem bt_reads {B : Nat} {w0 w : World} {H : List As} {L : List Bt} (h : SL.Mod B w0 (SL.star (L.map Bt.own) :: H) w) {b : Bt} (hb : b ∈ L) : Reads w b.A (recs b.l) := by
  obtain ⟨F1, h2⟩ := h.headSat
  obtain ⟨F2, h3⟩ := sat_mem (List.mem_map_of_mem hb) h2
  exact (ownsRow_reads h3.2).1
theorem batch_fits15 {s n : Int} {l : List Rec} (h : batchOk s n l = true) : Fits l := by
  intro r hr
  have := ok_size (List.all_eq_true.1 (V.bfacts h).2.2.2.2 r hr)
  omega
/-- A batch that can be written, written. -/
theorem enc15 (s n : Int) (l : List Rec) (h : batchOk s n l = true) (A : Option Addr) (c : Nat) (w : World) (hr : Reads w A (recs l)) :
    Calls Try.prog 35 #[.agg #[.int .i64 s, .int .i64 n, .slice A l.length c]] w fun e w' => ∃ v, e = .returned (.tuple #[v, .int .i64 0]) ∧ Below w.heap.size w w' := by
  refine (Encode_calls s n l (batch_fits15 h) A c (Nat.le_trans (V.bfacts h).2.2.2.1 (by decide)) w hr).mono ?_
  rintro e w' ⟨v, rfl, hj⟩
  rw [h]
  exact ⟨v, rfl, hj.below⟩
theorem bt_v {bl : List Bt} {o : List (Int × List Rec)} (h : bl.map Bt.v = o) {j : Nat} {b : Bt} (hb : bl[j]? = some b) : o[j]? = some (b.n, b.l) := by
  rw [← h, List.getElem?_map, hb]
  rfl
theorem loop_len (now : Int) : ∀ (f : Nat) (P : SP) (o : List (Int × List Rec)), (loopP now f P o).2.length ≤ o.length + f
  | 0, P, o => Nat.le_refl _
  | f + 1, P, o => by
    rw [loopP]
    split
    · have := loop_len now f (P.step now) (o ++ [(P.nx, P.q.take (Ytghfoooldcbdnaa.room P.q))])
      rw [List.length_append, List.length_singleton] at this
      omega
    · show o.length ≤ _
      omega
theorem SB.len {S : SS} {k : Nat} {s : Int} (h : SB S k s) (now : Int) : (S.p.sends now).2.length ≤ 272 := by
  unfold SP.sends
  split
  · refine Nat.le_trans (loop_len now _ _ _) ?_
    rw [List.length_map]
    have h2 := List.length_filter_le (fun x : Int × List Rec × Int => decide (x.2.2 ≤ now)) S.p.rg
    have h3 := h.ok.ql
    have h4 := h.ok.rg
    omega
  · simp
theorem mxs_ge (a : Int) : ∀ (l : List (Int × List Rec)), a ≤ mxs a l
  | [] => Int.le_refl _
  | b :: l => by
    show a ≤ mxs (max a b.1) l
    have := mxs_ge (max a b.1) l
    omega
theorem mxs_app (a : Int) (l m : List (Int × List Rec)) : mxs a (l ++ m) = mxs (mxs a l) m := by simp [mxs]
theorem mxs_take (a : Int) (l : List (Int × List Rec)) (j : Nat) : mxs a (l.take j) ≤ mxs a l := by
  conv => rhs; rw [← List.take_append_drop j l, mxs_app]
  exact mxs_ge _ _
end Go.Proofs.Ytghfoooldcbdnaa
