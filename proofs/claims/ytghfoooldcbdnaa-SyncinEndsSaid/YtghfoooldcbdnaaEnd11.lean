/-
  PART 11 OF THE PROOF OF SyncinEnds: laid together from the proof's own texts: Snd10, Snd11, Snd12, Snd13, Alive15, Alive15b, Bnd0, RoomP, Snd14, Bnd1, Seen, Seen15, Bnd2, Small14, Plain15, Agn1.
-/
import Derived.Deep.Slices
import Derived.ChangeArms
import Derived.SizedLaws
import Derived.Outline
import Derived.Test.YtghfoooldcbdnaaEnd2
import Derived.Test.YtghfoooldcbdnaaEnd3
import Derived.Test.YtghfoooldcbdnaaEnd4
import Derived.Test.YtghfoooldcbdnaaEnd10
set_option linter.unusedVariables false
set_option linter.unusedSimpArgs false
namespace Go.Proofs.Ytghfoooldcbdnaa
open Go.RowKit Go.Proofs.Ytghfoooldcbdnaa.SL Go.Proofs.YtghfoooldcbdnaaW.PrintWords

/-- What is sent, and what is kept, whatever the time. -/
def SS.sends (S : SS) (now : Int) : SP × List (Int × List Rec) := if 0 ≤ now ∧ now ≤ 1099511627776 then S.sent now else (S.p, [])
theorem Send_calls (g : Nat) (S : SS) (now : Int) (hev : 0 ≤ S.ev ∧ S.ev ≤ 10000) (hl : S.rg.length ≤ 1000) (hxl : ∀ x ∈ S.rg, x.l.length ≤ 64) (hxn : ∀ x ∈ S.rg, 0 ≤ x.n ∧ x.n ≤ 4611686018427387000) (hq : ∀ r ∈ S.q, r.ok = true) (hql : S.q.length ≤ 500) (hnx : 0 ≤ S.nx ∧ S.nx ≤ 4611686018427387000) (B : Nat) (w0 w : World) (H : List As) (HM : SL.Mod B w0 (snd g S :: H) w) :
    Calls Try.prog 34 #[.pointer (some ⟨g, 0, none⟩), .int .i64 now] w fun e w' => ∃ (v : Value) (bl : List Bt) (S' : SS), e = .returned v ∧ (S'.p, bl.map Bt.v) = S.sends now ∧ SL.Mod B w0 (snd g S' :: row v 61 3 bl.length (bts S.s bl) :: SL.star (bl.map Bt.own) :: H) w' := by
  unfold SS.sends
  by_cases h : 0 ≤ now ∧ now ≤ 1099511627776
  · rw [if_pos h]
    exact Send_go g S now h.1 h.2 hev hl hxl hxn hq hql hnx B w0 w H HM
  · rw [if_neg h]
    refine (Send_no g S now (by omega) B w0 w H HM).mono ?_
    rintro e w' ⟨rfl, HM1⟩
    have HM2 : SL.Mod B w0 (SL.star (([] : List Bt).map Bt.own) :: row (.slice none 0 0) 61 3 ([] : List Bt).length (bts S.s []) :: snd g S :: H) w' := Mod.starNil (HM1.nilRow 61 3)
    exact ⟨_, [], S, rfl, rfl, HM2.sub⟩
end Go.Proofs.Ytghfoooldcbdnaa
set_option linter.unusedVariables false
set_option linter.unusedSimpArgs false
namespace Go.Proofs.Ytghfoooldcbdnaa
open Go.RowKit Go.Proofs.Ytghfoooldcbdnaa.SL Go.Proofs.YtghfoooldcbdnaaW.PrintWords

theorem map_erase {α β : Type} (f : α → β) : ∀ (l : List α) (k : Nat), (l.eraseIdx k).map f = (l.map f).eraseIdx k
  | [], k => by simp
  | x :: l, 0 => by simp
  | x :: l, k + 1 => by simp [map_erase f l k]
/-- Due again. -/
def pAgain (now ev : Int) (x : Int × List Rec × Int) : Int × List Rec × Int := if x.2.2 ≤ now then (x.1, x.2.1, now + ev) else x
/-- Due at once. -/
def pLate (an now : Int) (x : Int × List Rec × Int) : Int × List Rec × Int := if an < x.1 then (x.1, x.2.1, now) else x
theorem again_v (now ev : Int) (x : Sn) : (x.again now ev).v = pAgain now ev x.v := by
  unfold Sn.again pAgain Sn.v
  dsimp only
  split <;> rfl
theorem late_v (an now : Int) (x : Sn) : (x.late an now).v = pLate an now x.v := by
  unfold Sn.late pLate Sn.v
  dsimp only
  split <;> rfl
def SP.sends (P : SP) (now : Int) : SP × List (Int × List Rec) :=
  if 0 ≤ now ∧ now ≤ 1099511627776 then loopP now P.q.length { P with rg := P.rg.map (pAgain now P.ev) } ((P.rg.filter (fun x => decide (x.2.2 ≤ now))).map (fun x => (x.1, x.2.1))) else (P, [])
theorem sends_p (S : SS) (now : Int) : S.sends now = S.p.sends now := by
  unfold SS.sends SP.sends
  by_cases h : 0 ≤ now ∧ now ≤ 1099511627776
  · rw [if_pos h, if_pos h]
    unfold SS.sent outK
    have e1 : ({ S with rg := S.rg.map (Sn.again now S.ev) } : SS).p = { S.p with rg := S.p.rg.map (pAgain now S.p.ev) } := by
      unfold SS.p
      simp only [List.map_map]
      congr 1
      apply List.map_congr_left
      intro x _
      exact again_v now S.ev x
    have e2 : ((S.rg.take S.rg.length).filter (fun x => decide (x.due ≤ now))).map (fun x => (x.n, x.l)) = (S.p.rg.filter (fun x => decide (x.2.2 ≤ now))).map (fun x => (x.1, x.2.1)) := by
      unfold SS.p
      rw [List.take_length, List.filter_map, List.map_map]
      rfl
    rw [e1, e2]
    rfl
  · rw [if_neg h, if_neg h]
def SP.add (P : SP) (r : Rec) : SP × Bool :=
  if r.ok = true then match idxQ P.q r.fl with
    | some k => ({ P with q := P.q.set k r, kn := kpt P.kn r.fl (1, 0) }, true)
    | none => if 256 ≤ P.q.length then (P, false) else ({ P with q := P.q ++ [r], kn := kpt P.kn r.fl (1, 0) }, true)
  else (P, false)
theorem add_p (S : SS) (r : Rec) : (S.add r).1.p = (S.p.add r).1 ∧ (S.add r).2 = (S.p.add r).2 := by
  unfold SS.add SP.add
  have e : S.p.q = S.q := rfl
  rw [e]
  split
  · cases idxQ S.q r.fl with
    | some k => exact ⟨rfl, rfl⟩
    | none =>
      dsimp only
      split <;> exact ⟨rfl, rfl⟩
  · exact ⟨rfl, rfl⟩
def SP.take (P : SP) (as0 an : Int) (ag : Bool) (af now : Int) : SP × Bool :=
  if as0 = P.s then
    if ag = true then ({ P with rg := P.rg.map (pLate an now) }, true)
    else match P.rg.findIdx? (fun x => decide (x.1 = an)) with
      | none => (P, false)
      | some k => match P.rg[k]? with
        | none => (P, false)
        | some x => ({ P with rg := P.rg.eraseIdx k, kn := tk P.kn an af x.2.1 x.2.1.length }, true)
  else (P, false)
theorem take_p (S : SS) (as0 an : Int) (ag : Bool) (af now : Int) : (S.take as0 an ag af now).1.p = (S.p.take as0 an ag af now).1 ∧ (S.take as0 an ag af now).2 = (S.p.take as0 an ag af now).2 := by
  unfold SS.take SP.take
  have e : S.p.s = S.s := rfl
  rw [e]
  split
  · split
    · refine ⟨?_, rfl⟩
      unfold SS.p
      simp only [List.map_map]
      congr 1
      apply List.map_congr_left
      intro x _
      exact late_v an now x
    · have e2 : S.p.rg.findIdx? (fun x => decide (x.1 = an)) = idxR S.rg an := by
        unfold SS.p idxR
        dsimp only
        rw [List.findIdx?_map]
        rfl
      rw [e2]
      cases idxR S.rg an with
      | none => exact ⟨rfl, rfl⟩
      | some k =>
        have e3 : S.p.rg[k]? = (S.rg[k]?).map Sn.v := List.getElem?_map ..
        dsimp only
        rw [e3]
        cases S.rg[k]? with
        | none => exact ⟨rfl, rfl⟩
        | some x =>
          refine ⟨?_, rfl⟩
          unfold SS.p
          simp only [Option.map_some]
          rw [map_erase]
          rfl
  · exact ⟨rfl, rfl⟩
end Go.Proofs.Ytghfoooldcbdnaa
set_option linter.unusedVariables false
set_option linter.unusedSimpArgs false
namespace Go.Proofs.Ytghfoooldcbdnaa
open Go.RowKit Go.Proofs.Ytghfoooldcbdnaa.SL Go.Proofs.YtghfoooldcbdnaaW.PrintWords

/-- A sender behind k calls. -/
structure SP.Ok (P : SP) (k : Nat) : Prop where
  ev : 1 ≤ P.ev ∧ P.ev ≤ 10000
  q : ∀ r ∈ P.q, r.ok = true
  ql : P.q.length ≤ 256
  rg : P.rg.length ≤ 16
  xl : ∀ x ∈ P.rg, x.2.1.length ≤ 64
  xn : ∀ x ∈ P.rg, 1 ≤ x.1 ∧ x.1 < P.nx
  nx : 1 ≤ P.nx ∧ P.nx + P.q.length ≤ 1 + k
theorem new_ok (s ev : Int) (h : 1 ≤ ev ∧ ev ≤ 10000) : (SS.new s ev).p.Ok 0 :=
  ⟨h, by intro r hr; simp [SS.new, SS.p] at hr, by simp [SS.new, SS.p], by simp [SS.new, SS.p], by intro r hr; simp [SS.new, SS.p] at hr, by intro r hr; simp [SS.new, SS.p] at hr, by simp [SS.new, SS.p]⟩
theorem SP.Ok.mono {P : SP} {k j : Nat} (h : P.Ok k) (hk : k ≤ j) : P.Ok j := ⟨h.ev, h.q, h.ql, h.rg, h.xl, h.xn, by have := h.nx; omega⟩
theorem SP.Ok.add {P : SP} {k : Nat} (h : P.Ok k) (r : Rec) : (P.add r).1.Ok (k + 1) := by
  unfold SP.add
  by_cases hr : r.ok = true
  · rw [if_pos hr]
    cases idxQ P.q r.fl with
    | some i =>
      refine ⟨h.ev, fun x hx => ?_, ?_, h.rg, h.xl, h.xn, ?_⟩
      · rcases List.mem_or_eq_of_mem_set hx with hx | rfl
        · exact h.q x hx
        · exact hr
      · show (P.q.set i r).length ≤ 256
        rw [List.length_set]; exact h.ql
      · show 1 ≤ P.nx ∧ P.nx + (P.q.set i r).length ≤ _
        rw [List.length_set]
        have := h.nx
        omega
    | none =>
      dsimp only
      by_cases hl : 256 ≤ P.q.length
      · rw [if_pos hl]
        exact h.mono (by omega)
      · rw [if_neg hl]
        refine ⟨h.ev, fun x hx => ?_, ?_, h.rg, h.xl, h.xn, ?_⟩
        · rcases List.mem_append.1 hx with hx | hx
          · exact h.q x hx
          · rw [List.mem_singleton.1 hx]; exact hr
        · show (P.q ++ [r]).length ≤ 256
          rw [List.length_append, List.length_singleton]; omega
        · show 1 ≤ P.nx ∧ P.nx + (P.q ++ [r]).length ≤ _
          rw [List.length_append, List.length_singleton]
          have := h.nx
          omega
  · rw [if_neg hr]
    exact h.mono (by omega)
theorem SP.Ok.rgMap {P : SP} {k : Nat} (h : P.Ok k) (f : Int × List Rec × Int → Int × List Rec × Int) (h1 : ∀ x, (f x).1 = x.1) (h2 : ∀ x, (f x).2.1 = x.2.1) : ({ P with rg := P.rg.map f } : SP).Ok k := by
  refine ⟨h.ev, h.q, h.ql, ?_, fun x hx => ?_, fun x hx => ?_, h.nx⟩
  · show (P.rg.map f).length ≤ 16
    rw [List.length_map]; exact h.rg
  · obtain ⟨y, hy, rfl⟩ := List.mem_map.1 hx
    rw [h2]; exact h.xl y hy
  · obtain ⟨y, hy, rfl⟩ := List.mem_map.1 hx
    rw [h1]; exact h.xn y hy
theorem pLate_1 (an now : Int) (x : Int × List Rec × Int) : (pLate an now x).1 = x.1 := by unfold pLate; split <;> rfl
theorem pLate_2 (an now : Int) (x : Int × List Rec × Int) : (pLate an now x).2.1 = x.2.1 := by unfold pLate; split <;> rfl
theorem pAgain_1 (now ev : Int) (x : Int × List Rec × Int) : (pAgain now ev x).1 = x.1 := by unfold pAgain; split <;> rfl
theorem pAgain_2 (now ev : Int) (x : Int × List Rec × Int) : (pAgain now ev x).2.1 = x.2.1 := by unfold pAgain; split <;> rfl
theorem SP.Ok.take {P : SP} {k : Nat} (h : P.Ok k) (as0 an : Int) (ag : Bool) (af now : Int) : (P.take as0 an ag af now).1.Ok k := by
  unfold SP.take
  split
  · split
    · exact h.rgMap _ (pLate_1 an now) (pLate_2 an now)
    · cases P.rg.findIdx? (fun x => decide (x.1 = an)) with
      | none => exact h
      | some i =>
        dsimp only
        cases P.rg[i]? with
        | none => exact h
        | some x =>
          have hs := List.eraseIdx_sublist P.rg i
          exact ⟨h.ev, h.q, h.ql, Nat.le_trans hs.length_le h.rg, fun y hy => h.xl y (hs.subset hy), fun y hy => h.xn y (hs.subset hy), h.nx⟩
  · exact h
theorem SP.room_rg {P : SP} (h : P.room = true) : P.rg.length < 16 := by
  unfold SP.room at h
  cases h0 : P.rg[0]? with
  | none =>
    rw [List.getElem?_eq_none_iff] at h0
    omega
  | some x =>
    rw [h0] at h
    simp at h
    exact h.1
theorem SP.Ok.step {P : SP} {k : Nat} (h : P.Ok k) (hq : P.q.isEmpty = false) (hr : P.room = true) (now : Int) : (P.step now).Ok k := by
  have hl : 0 < P.q.length := by
    cases h0 : P.q with
    | nil => rw [h0] at hq; cases hq
    | cons _ _ => simp
  have m0 := rm_pos h.q hl
  have m1 := rm_le P.q
  have m2 := rm_64 P.q
  have hn := h.nx
  have hg := SP.room_rg hr
  have hd : (P.q.drop (Ytghfoooldcbdnaa.room P.q)).length = P.q.length - Ytghfoooldcbdnaa.room P.q := List.length_drop
  refine ⟨h.ev, fun r hr => h.q r (List.mem_of_mem_drop hr), ?_, ?_, fun x hx => ?_, fun x hx => ?_, ?_⟩
  · show (P.q.drop _).length ≤ 256
    have := h.ql
    omega
  · show (P.rg ++ [_]).length ≤ 16
    rw [List.length_append, List.length_singleton]; omega
  · rcases List.mem_append.1 hx with hx | hx
    · exact h.xl x hx
    · rw [List.mem_singleton.1 hx]
      show (P.q.take _).length ≤ 64
      rw [List.length_take]; omega
  · show 1 ≤ x.1 ∧ x.1 < P.nx + 1
    rcases List.mem_append.1 hx with hx | hx
    · have := h.xn x hx; omega
    · rw [List.mem_singleton.1 hx]
      exact ⟨hn.1, by show P.nx < P.nx + 1; omega⟩
  · show 1 ≤ P.nx + 1 ∧ P.nx + 1 + (P.q.drop _).length ≤ 1 + k
    omega
theorem SP.Ok.loop {k : Nat} (now : Int) : ∀ (f : Nat) (P : SP) (o : List (Int × List Rec)), P.Ok k → (loopP now f P o).1.Ok k
  | 0, P, o, h => h
  | f + 1, P, o, h => by
    rw [loopP]
    split
    · exact SP.Ok.loop now f _ _ (h.step (‹_ ∧ _›).1 (‹_ ∧ _›).2 now)
    · exact h
theorem SP.Ok.sends {P : SP} {k : Nat} (h : P.Ok k) (now : Int) : (P.sends now).1.Ok k := by
  unfold SP.sends
  split
  · exact SP.Ok.loop now _ _ _ (h.rgMap _ (pAgain_1 now P.ev) (pAgain_2 now P.ev))
  · exact h
end Go.Proofs.Ytghfoooldcbdnaa
set_option linter.unusedVariables false
set_option linter.unusedSimpArgs false
namespace Go.Proofs.Ytghfoooldcbdnaa
open Go.RowKit Go.Proofs.Ytghfoooldcbdnaa.SL Go.Proofs.YtghfoooldcbdnaaW.PrintWords
section
variable {g : Nat} {S : SS} {k : Nat} {B : Nat} {w0 w : World} {H : List As}
theorem SendK (now : Int) (h : S.p.Ok k) (hk : k ≤ 1000000) (HM : SL.Mod B w0 (snd g S :: H) w) :
    Calls Try.prog 34 #[.pointer (some ⟨g, 0, none⟩), .int .i64 now] w fun e w' => ∃ (v : Value) (bl : List Bt) (S' : SS), e = .returned v ∧ S'.p = (S.p.sends now).1 ∧ bl.map Bt.v = (S.p.sends now).2 ∧ SL.Mod B w0 (snd g S' :: row v 61 3 bl.length (bts S.s bl) :: SL.star (bl.map Bt.own) :: H) w' := by
  have h1 : 1 ≤ S.ev ∧ S.ev ≤ 10000 := h.ev
  have h2 : S.q.length ≤ 256 := h.ql
  have h3 : S.rg.length ≤ 16 := by have := h.rg; rwa [show S.p.rg = S.rg.map Sn.v from rfl, List.length_map] at this
  have h4 : 1 ≤ S.nx ∧ S.nx + S.q.length ≤ 1 + k := h.nx
  refine (Send_calls g S now (by omega) (by omega) (fun x hx => h.xl x.v (List.mem_map_of_mem hx)) (fun x hx => ?_) h.q (by omega) (by omega) B w0 w H HM).mono ?_
  · have := h.xn x.v (List.mem_map_of_mem hx)
    have e1 : x.v.1 = x.n := rfl
    have e2 : S.p.nx = S.nx := rfl
    omega
  · rintro e w' ⟨v, bl, S', rfl, h5, HM1⟩
    rw [sends_p] at h5
    exact ⟨v, bl, S', rfl, by rw [← h5], by rw [← h5], HM1⟩
theorem TakeK (as0 an af now : Int) (ag : Bool) (h : S.p.Ok k) (ha : 0 ≤ af ∧ af ≤ 18446744073709551615) (HM : SL.Mod B w0 (snd g S :: H) w) :
    Calls Try.prog 36 #[.pointer (some ⟨g, 0, none⟩), .agg (ansC as0 an ag af).toArray, .int .i64 now] w fun e w' => ∃ S' : SS, e = .returned (.bool (S.p.take as0 an ag af now).2) ∧ S'.p = (S.p.take as0 an ag af now).1 ∧ SL.Mod B w0 (snd g S' :: H) w' := by
  have h3 : S.rg.length ≤ 16 := by have := h.rg; rwa [show S.p.rg = S.rg.map Sn.v from rfl, List.length_map] at this
  refine (TakeS_calls g S as0 an af now ag (by omega) (fun x hx => h.xl x.v (List.mem_map_of_mem hx)) ha B w0 w H HM).mono ?_
  rintro e w' ⟨rfl, HM1⟩
  exact ⟨_, by rw [(take_p S as0 an ag af now).2], (take_p S as0 an ag af now).1, HM1⟩
theorem AddK (r : Rec) (h : S.p.Ok k) (h1 : r.fr.size ≤ maxLen) (h2 : r.tt.size ≤ maxLen) (HM : SL.Mod B w0 (snd g S :: H) w) :
    Calls Try.prog 33 #[.pointer (some ⟨g, 0, none⟩), .agg r.cells.toArray] w fun e w' => ∃ S' : SS, e = .returned (.bool (S.p.add r).2) ∧ S'.p = (S.p.add r).1 ∧ SL.Mod B w0 (snd g S' :: H) w' := by
  refine (Add_calls g S r h.ql h1 h2 B w0 w H HM).mono ?_
  rintro e w' ⟨rfl, HM1⟩
  exact ⟨_, by rw [(add_p S r).2], (add_p S r).1, HM1⟩
theorem KnownK (f : Fl) (HM : SL.Mod B w0 (snd g S :: H) w) :
    Calls Try.prog 45 #[.pointer (some ⟨g, 0, none⟩), .agg f.cells.toArray] w fun e w' => e = .returned (.int .i64 (kmk S.p.kn f).1) ∧ SL.Mod B w0 (snd g S :: H) w' := Known_calls g S f B w0 w H HM
theorem WaitingK (HM : SL.Mod B w0 (snd g S :: H) w) : Calls Try.prog 37 #[.pointer (some ⟨g, 0, none⟩)] w fun e w' => e = .returned (.tuple #[.int .i64 S.p.q.length, .int .i64 S.p.rg.length]) ∧ SL.Mod B w0 (snd g S :: H) w' := by
  rw [show S.p.rg.length = S.rg.length from by rw [show S.p.rg = S.rg.map Sn.v from rfl, List.length_map]]
  exact Waiting_calls g S B w0 w H HM
end
end Go.Proofs.Ytghfoooldcbdnaa
set_option linter.unusedVariables false
set_option linter.unusedSimpArgs false
namespace Go.Proofs.Ytghfoooldcbdnaa
open Go.RowKit Go.Proofs.Ytghfoooldcbdnaa.SL Go.Proofs.YtghfoooldcbdnaaW.PrintWords
end Go.Proofs.Ytghfoooldcbdnaa
set_option linter.unusedVariables false
set_option linter.unusedSimpArgs false
namespace Go.Proofs.Ytghfoooldcbdnaa
open Go.RowKit Go.Proofs.Ytghfoooldcbdnaa.SL Go.Proofs.YtghfoooldcbdnaaW.PrintWords
set_option maxRecDepth 100000 in
theorem field51 (a b c d e f g h : Value) (w : World) : (Instr.field 53 (.agg #[a, b, c, d, e, f, g, h]) 0).run Try.prog w = .ok (.agg #[a, b, c, d, e]) w := by
  have hs : (sizeOf 51).run Try.prog w = .ok 5 w := SL.run_sizeOf (by kernel_rfl)
  have hg : (isAgg 51).run Try.prog w = .ok true w := by simp [isAgg, run_underlying Try.underlying51]
  unfold Instr.field
  simp only [Sem.run_bind, run_underlying Try.underlying53, Result.andThen_ok]
  show ((part 51 #[a, b, c, d, e, f, g, h] 0).run Try.prog w) = _
  unfold part
  simp only [Sem.run_bind, hg, hs, Result.andThen_ok, if_true, Sem.run_pure]
  rfl
section
attribute [local go_sem] field51
end
end Go.Proofs.Ytghfoooldcbdnaa
set_option linter.unusedVariables false
set_option linter.unusedSimpArgs false
namespace Go.Proofs.Ytghfoooldcbdnaa
open Go.RowKit Go.Proofs.Ytghfoooldcbdnaa.SL Go.Proofs.YtghfoooldcbdnaaW.PrintWords
end Go.Proofs.Ytghfoooldcbdnaa
set_option linter.unusedVariables false
set_option linter.unusedSimpArgs false
namespace Go.Proofs.Ytghfoooldcbdnaa.V
open Go.RowKit Go.Proofs.Ytghfoooldcbdnaa.SL
theorem roomGo_take : ∀ (l : List Rec) (n k j : Nat), roomGo n k l - k ≤ j → roomGo n k (l.take j) = roomGo n k l
  | [], n, k, j, _ => by simp
  | r :: l, n, k, j, hj => by
    have hk : ∀ (l : List Rec) (n k : Nat), k ≤ roomGo n k l := by
      intro l
      induction l with
      | nil => intro n k; simp [roomGo]
      | cons r l ih => intro n k; unfold roomGo; split <;> first | omega | (have := ih (n + r.size) (k + 1); omega)
    by_cases hc : 64 ≤ k ∨ 1400 < n + r.size
    · cases j with
      | zero => simp [roomGo, hc]
      | succ j => simp [roomGo, hc]
    · have h1 : roomGo n k (r :: l) = roomGo (n + r.size) (k + 1) l := by rw [roomGo, if_neg hc]
      have h2 := hk l (n + r.size) (k + 1)
      cases j with
      | zero => rw [h1] at hj; omega
      | succ j =>
        rw [h1, List.take_succ_cons, roomGo, if_neg hc]
        exact roomGo_take l (n + r.size) (k + 1) j (by rw [h1] at hj; omega)
theorem room_yes {l : List Rec} (h : l.all Rec.ok = true) (hl : 0 < room l) (s n : Int) (hs : 0 ≤ s ∧ s ≤ 4611686018427387904) (hn : 1 ≤ n ∧ n ≤ 4611686018427387904) : batchOk s n (l.take (room l)) = true := by
  have h1 := roomGo_take l 19 0 (room l) (by unfold room; omega)
  have h2 := rm_le l
  have h3 : (l.take (room l)).length = room l := by rw [List.length_take]; omega
  have h4 : (l.take (room l)).all Rec.ok = true := List.all_eq_true.2 fun x hx => List.all_eq_true.1 h x (List.mem_of_mem_take hx)
  simp only [batchOk, headOk, inB, Bool.and_eq_true, decide_eq_true_eq, beq_iff_eq, Bool.not_eq_true', List.isEmpty_eq_false_iff]
  refine ⟨⟨⟨⟨hs, hn⟩, ?_⟩, ?_⟩, h4⟩
  · intro hc; rw [hc] at h3; simp at h3; omega
  · rw [h3]; exact h1
theorem bfacts {s n : Int} {l : List Rec} (h : batchOk s n l = true) : (0 ≤ s ∧ s ≤ 4611686018427387904) ∧ (1 ≤ n ∧ n ≤ 4611686018427387904) ∧ 0 < l.length ∧ l.length ≤ 64 ∧ l.all Rec.ok = true := by
  rw [batchOk, Bool.and_eq_true] at h
  obtain ⟨h1, h2, h3, h4, h5, h6⟩ := headOk_spec h.1
  exact ⟨h1, h2, h3, h5, h.2⟩
end Go.Proofs.Ytghfoooldcbdnaa.V
set_option linter.unusedVariables false
set_option linter.unusedSimpArgs false
namespace Go.Proofs.Ytghfoooldcbdnaa
open Go.RowKit Go.Proofs.Ytghfoooldcbdnaa.SL Go.Proofs.YtghfoooldcbdnaaW.PrintWords
def SP.Bat (P : SP) : Prop := ∀ x ∈ P.rg, batchOk P.s x.1 x.2.1 = true
theorem add_rg (P : SP) (r : Rec) : (P.add r).1.rg = P.rg ∧ (P.add r).1.s = P.s ∧ (P.add r).1.nx = P.nx := by
  unfold SP.add
  split
  · cases idxQ P.q r.fl with
    | some k => exact ⟨rfl, rfl, rfl⟩
    | none => dsimp only; split <;> exact ⟨rfl, rfl, rfl⟩
  · exact ⟨rfl, rfl, rfl⟩
theorem SP.Bat.add {P : SP} (h : P.Bat) (r : Rec) : (P.add r).1.Bat := by
  unfold SP.Bat
  rw [(add_rg P r).1, (add_rg P r).2.1]
  exact h
theorem SP.Bat.rgMap {P : SP} (h : P.Bat) (f : Int × List Rec × Int → Int × List Rec × Int) (h1 : ∀ x, (f x).1 = x.1) (h2 : ∀ x, (f x).2.1 = x.2.1) : ({ P with rg := P.rg.map f } : SP).Bat := by
  intro x hx
  obtain ⟨y, hy, rfl⟩ := List.mem_map.1 hx
  rw [h1, h2]
  exact h y hy
theorem SP.Bat.take {P : SP} (h : P.Bat) (as0 an : Int) (ag : Bool) (af now : Int) : (P.take as0 an ag af now).1.Bat := by
  unfold SP.take
  split
  · split
    · exact h.rgMap _ (pLate_1 an now) (pLate_2 an now)
    · cases P.rg.findIdx? (fun x => decide (x.1 = an)) with
      | none => exact h
      | some i =>
        dsimp only
        cases P.rg[i]? with
        | none => exact h
        | some x => exact fun y hy => h y ((List.eraseIdx_sublist P.rg i).subset hy)
  · exact h
theorem new_bat {P : SP} {k : Nat} (h : P.Ok k) (hk : k ≤ 1000000) (hs : 0 ≤ P.s ∧ P.s ≤ 4611686018427387904) (hq : P.q.isEmpty = false) : batchOk P.s P.nx (P.q.take (room P.q)) = true := by
  have hl : 0 < P.q.length := by
    cases h0 : P.q with
    | nil => rw [h0] at hq; cases hq
    | cons _ _ => simp
  have hn := h.nx
  exact V.room_yes (List.all_eq_true.2 h.q) (rm_pos h.q hl) P.s P.nx hs (by omega)
theorem SP.Bat.step {P : SP} {k : Nat} (h : P.Bat) (ho : P.Ok k) (hk : k ≤ 1000000) (hs : 0 ≤ P.s ∧ P.s ≤ 4611686018427387904) (hq : P.q.isEmpty = false) (now : Int) : (P.step now).Bat := by
  intro x hx
  rcases List.mem_append.1 hx with hx | hx
  · exact h x hx
  · rw [List.mem_singleton.1 hx]
    exact new_bat ho hk hs hq
theorem SP.Bat.loop {k : Nat} (hk : k ≤ 1000000) (now : Int) : ∀ (f : Nat) (P : SP) (o : List (Int × List Rec)), P.Bat → P.Ok k → (0 ≤ P.s ∧ P.s ≤ 4611686018427387904) → (∀ b ∈ o, batchOk P.s b.1 b.2 = true) → (loopP now f P o).1.Bat ∧ (loopP now f P o).1.s = P.s ∧ ∀ b ∈ (loopP now f P o).2, batchOk P.s b.1 b.2 = true
  | 0, P, o, h, _, _, hb => ⟨h, rfl, hb⟩
  | f + 1, P, o, h, ho, hs, hb => by
    rw [loopP]
    split
    · have hc := ‹_ ∧ _›
      exact SP.Bat.loop hk now f (P.step now) _ (h.step ho hk hs hc.1 now) (ho.step hc.1 hc.2 now) hs (fun b hb2 => by
        rcases List.mem_append.1 hb2 with hb2 | hb2
        · exact hb b hb2
        · rw [List.mem_singleton.1 hb2]
          exact new_bat ho hk hs hc.1)
    · exact ⟨h, rfl, hb⟩
/-- What Send hands out can be written, and what waits too. -/
theorem SP.Bat.sends {P : SP} {k : Nat} (h : P.Bat) (ho : P.Ok k) (hk : k ≤ 1000000) (hs : 0 ≤ P.s ∧ P.s ≤ 4611686018427387904) (now : Int) : (P.sends now).1.Bat ∧ (P.sends now).1.s = P.s ∧ ∀ b ∈ (P.sends now).2, batchOk P.s b.1 b.2 = true := by
  unfold SP.sends
  split
  · refine SP.Bat.loop hk now _ _ _ (h.rgMap _ (pAgain_1 now P.ev) (pAgain_2 now P.ev)) (ho.rgMap _ (pAgain_1 now P.ev) (pAgain_2 now P.ev)) hs (fun b hb => ?_)
    obtain ⟨x, hx, rfl⟩ := List.mem_map.1 hb
    exact h x (List.mem_filter.1 hx).1
  · exact ⟨h, rfl, fun b hb => by simp at hb⟩
end Go.Proofs.Ytghfoooldcbdnaa
set_option linter.unusedVariables false
set_option linter.unusedSimpArgs false
namespace Go.Proofs.Ytghfoooldcbdnaa
open Go.RowKit Go.Proofs.Ytghfoooldcbdnaa.SL Go.Proofs.YtghfoooldcbdnaaW.PrintWords
/-- The greatest number so far. -/
def mxs (a : Int) (l : List (Int × List Rec)) : Int := l.foldl (fun m b => max m b.1) a
/-- No number is more than one behind the greatest ahead of it; and which is the greatest in the end. -/
structure Rises (a : Int) (l : List (Int × List Rec)) (c : Int) : Prop where
  one : ∀ j b, l[j]? = some b → b.1 ≤ mxs a (l.take j) + 1
  last : mxs a l = c
theorem mxs_snoc (a : Int) (l : List (Int × List Rec)) (b : Int × List Rec) : mxs a (l ++ [b]) = max (mxs a l) b.1 := by simp [mxs]
theorem Rises.snoc {a c : Int} {l : List (Int × List Rec)} (h : Rises a l c) (b : Int × List Rec) (hb : b.1 ≤ c + 1) : Rises a (l ++ [b]) (max c b.1) := by
  refine ⟨fun j x hx => ?_, by rw [mxs_snoc, h.last]⟩
  by_cases hj : j < l.length
  · rw [List.getElem?_append_left hj] at hx
    rw [List.take_append_of_le_length (by omega)]
    exact h.one j x hx
  · have hj2 := (List.getElem?_eq_some_iff.1 hx).1
    rw [List.length_append, List.length_singleton] at hj2
    have e : j = l.length := by omega
    subst e
    rw [List.getElem?_append_right (by omega), Nat.sub_self] at hx
    have e2 : b = x := by simpa using hx
    subst e2
    rw [List.take_left, h.last]
    exact hb
theorem Rises.below {a : Int} : ∀ {l : List (Int × List Rec)}, (∀ b ∈ l, b.1 ≤ a) → Rises a l a := by
  intro l h
  have hm : ∀ m : List (Int × List Rec), (∀ b ∈ m, b.1 ≤ a) → mxs a m = a := by
    intro m
    induction m with
    | nil => intro _; rfl
    | cons b m ih =>
      intro h
      show mxs (max a b.1) m = a
      rw [show max a b.1 = a from by have := h b (by simp); omega]
      exact ih (fun x hx => h x (by simp [hx]))
  refine ⟨fun j b hb => ?_, hm l h⟩
  rw [hm _ (fun x hx => h x (List.mem_of_mem_take hx))]
  have := h b (List.mem_of_getElem? hb)
  omega
theorem Rises.loop {a : Int} (now : Int) : ∀ (f : Nat) (P : SP) (o : List (Int × List Rec)), Rises a o (P.nx - 1) → Rises a (loopP now f P o).2 ((loopP now f P o).1.nx - 1)
  | 0, P, o, h => h
  | f + 1, P, o, h => by
    rw [loopP]
    split
    · refine Rises.loop now f _ _ ?_
      have h2 := h.snoc (P.nx, P.q.take (room P.q)) (by show P.nx ≤ _; omega)
      rw [show max (P.nx - 1) (P.nx, P.q.take (room P.q)).1 = (P.step now).nx - 1 from by show max (P.nx - 1) P.nx = P.nx + 1 - 1; omega] at h2
      exact h2
    · exact h
theorem take_nx (P : SP) (as0 an : Int) (ag : Bool) (af now : Int) : (P.take as0 an ag af now).1.nx = P.nx ∧ (P.take as0 an ag af now).1.s = P.s := by
  unfold SP.take
  split
  · split
    · exact ⟨rfl, rfl⟩
    · cases P.rg.findIdx? (fun x => decide (x.1 = an)) with
      | none => exact ⟨rfl, rfl⟩
      | some i =>
        dsimp only
        cases P.rg[i]? with
        | none => exact ⟨rfl, rfl⟩
        | some x => exact ⟨rfl, rfl⟩
  · exact ⟨rfl, rfl⟩
end Go.Proofs.Ytghfoooldcbdnaa
set_option linter.unusedVariables false
set_option linter.unusedSimpArgs false
namespace Go.Proofs.Ytghfoooldcbdnaa
open Go.RowKit Go.Deep Go.Proofs.Ytghfoooldcbdnaa.SL

/-- These cells are read, of this type, within reach. -/
def Tr {Hh : Type} (enc : TypeId × Value → Hh) (P : Program) (W : World) (t : TypeId) (cs : List Value) : Prop :=
  ∃ fuel d p, DataW.trod enc P W 0 (fun _ => true) true fuel t cs = some (d, p) ∧ ∀ n ∈ d.weights P t, n ≤ reachBytes

section
variable {Hh : Type} {enc : TypeId × Value → Hh} {P : Program} {W : World} {t e : TypeId} {cs : List Value}
theorem Tr.int {k : IntKind} (hu : P.underlying t = some (.int k)) (h : Tr enc P W t cs) : ∃ n, cs = [.int k n] ∧ (Lit.int k n).wf = true := by
  obtain ⟨fuel, d, p, h, _⟩ := h
  cases fuel with
  | zero => simp [DataW.trod] at h
  | succ n =>
    unfold DataW.trod at h
    rw [hu] at h
    split at h <;> simp_all
theorem Tr.bool (hu : P.underlying t = some .bool) (h : Tr enc P W t cs) : ∃ b, cs = [.bool b] := by
  obtain ⟨fuel, d, p, h, _⟩ := h
  cases fuel with
  | zero => simp [DataW.trod] at h
  | succ n =>
    unfold DataW.trod at h
    rw [hu] at h
    split at h <;> simp_all
theorem Tr.string (hu : P.underlying t = some .string) (h : Tr enc P W t cs) : ∃ s : ByteArray, cs = [.string s] ∧ s.size ≤ reachBytes := by
  obtain ⟨fuel, d, p, h, hw⟩ := h
  cases fuel with
  | zero => simp [DataW.trod] at h
  | succ n =>
    unfold DataW.trod at h
    rw [hu] at h
    split at h <;> simp_all
    obtain ⟨_, rfl, _⟩ := h
    simp [DataW.weights] at hw
    exact hw
theorem weights_each {ts : List TypeId} {ds : List (DataW Hh)} (h : ∀ n ∈ DataW.weightsEach P ts ds, n ≤ reachBytes) {i : Nat} {t : TypeId} {d : DataW Hh} (ht : ts[i]? = some t) (hd : ds[i]? = some d) : ∀ n ∈ d.weights P t, n ≤ reachBytes :=
  fun n hn => h n (DataW.weights_mem_each ht hd n hn)
theorem weights_all {e : TypeId} : ∀ {ds : List (DataW Hh)} {d : DataW Hh}, d ∈ ds → ∀ n ∈ d.weights P e, n ∈ DataW.weightsAll P e ds
  | d0 :: ds, d, hd, n, hn => by
    simp only [DataW.weightsAll, List.mem_append]
    rcases List.mem_cons.1 hd with rfl | hd
    · exact .inl hn
    · exact .inr (weights_all hd n hn)
theorem Tr.struct {fs : Array Field} (hu : P.underlying t = some (.struct fs)) (h : Tr enc P W t cs) : cs.length = P.cellsOf t ∧ ∀ (i : Nat) (f : Field), fs[i]? = some f → Tr enc P W f.type ((cs.drop f.offset).take (P.cellsOf f.type)) := by
  obtain ⟨fuel, d, p, h, hw⟩ := h
  obtain ⟨xs, n, rfl, hx, hl, hlen, hf⟩ := DataW.trod_struct hu h
  obtain ⟨rfl, rfl⟩ := Prod.mk.inj hx
  refine ⟨hl, fun i f hi => ?_⟩
  have h1 := hf i f hi
  have hlt : i < xs.length := by
    rw [hlen]
    exact (Array.getElem?_eq_some_iff.1 hi).1
  rw [List.getElem?_eq_getElem hlt] at h1
  refine ⟨n, xs[i].1, xs[i].2, h1, ?_⟩
  simp only [DataW.weights, hu] at hw
  refine weights_each hw (i := i) ?_ ?_
  · rw [List.getElem?_map, Array.getElem?_toList, hi]; rfl
  · rw [List.getElem?_map, List.getElem?_eq_getElem hlt]; rfl

theorem Tr.field {fs : Array Field} (h : ∀ (i : Nat) (f : Field), fs[i]? = some f → Tr enc P W f.type ((cs.drop f.offset).take (P.cellsOf f.type))) (i : Nat) {f : Field} (hi : fs[i]? = some f) {n : Nat} (hc : P.cellsOf f.type = n) : Tr enc P W f.type ((cs.drop f.offset).take n) := hc ▸ h i f hi
theorem at_of_flat {α β : Type} {el : α → List β} {sz : Nat} (hsz : ∀ x, (el x).length = sz) : ∀ (l : List α) (j : Nat) (u : β), (l.flatMap el)[j]? = some u → ∃ i r x, l[i]? = some x ∧ j = i * sz + r ∧ r < sz ∧ (el x)[r]? = some u
  | [], j, u, h => by simp at h
  | y :: l, j, u, h => by
    rw [List.flatMap_cons] at h
    by_cases hj : j < sz
    · rw [List.getElem?_append_left (by rw [hsz]; exact hj)] at h
      exact ⟨0, j, y, rfl, by simp, hj, h⟩
    · rw [List.getElem?_append_right (by rw [hsz]; omega), hsz] at h
      obtain ⟨i, r, x, h1, h2, h3, h4⟩ := at_of_flat hsz l (j - sz) u h
      exact ⟨i + 1, r, x, by simpa using h1, by rw [Nat.succ_mul]; omega, h3, h4⟩

/-- A slice, element by element. -/
theorem Tr.list {α : Type} {el : α → List Value} {Q : α → Prop} {sz bytes : Nat} (hu : P.underlying t = some (.slice e)) (hsz : P.cellsOf e = sz) (hel : ∀ x, (el x).length = sz) (hby : P.bytesOf e = bytes)
    (dec : ∀ ecs, Tr enc P W e ecs → ∃ x, ecs = el x ∧ Q x) (h : Tr enc P W t cs) :
    ∃ (A : Option Addr) (l : List α) (c : Nat), cs = [.slice A l.length c] ∧ Reads W A (l.flatMap el) ∧ (∀ x ∈ l, Q x) ∧ l.length * bytes ≤ reachBytes ∧ l.length ≤ maxLen := by
  obtain ⟨fuel, d, p, h, hw⟩ := h
  rcases open_slice hu h with ⟨rfl, hx⟩ | ⟨a, len, cap, m, n, D, Pl, rfl, _, hlc, hcm, hm, hx, hop⟩
  · exact ⟨none, [], 0, rfl, Reads.nil _ _, by simp, by simp, by simp⟩
  · rw [if_pos rfl] at hm
    subst hm
    obtain ⟨rfl, rfl⟩ := Prod.mk.inj hx
    simp only [DataW.weights, hu, List.mem_cons, List.mem_append, List.length_map, List.length_range] at hw
    have hwt := hw _ (.inl rfl)
    have hchoose : ∀ i, ∃ x : Option α, i < len → ∃ y, x = some y ∧ Q y ∧ W.cells? 0 (a.add (i * P.cellsOf e)) (P.cellsOf e) = some (el y) := by
      intro i
      by_cases hi : i < len
      · obtain ⟨ecs, h1, h2⟩ := hop i (by omega)
        obtain ⟨x, rfl, hq⟩ := dec ecs ⟨_, _, _, h2, fun k hk => hw k (.inr (.inl (weights_all (by rw [List.mem_map]; exact ⟨i, by simpa using hi, rfl⟩) k hk)))⟩
        exact ⟨some x, fun _ => ⟨x, rfl, hq, h1⟩⟩
      · exact ⟨none, fun h => absurd h hi⟩
    have hl : ∀ k, k ≤ len → ∃ l : List α, l.length = k ∧ (∀ x ∈ l, Q x) ∧ ∀ i x, l[i]? = some x → W.cells? 0 (a.add (i * P.cellsOf e)) (P.cellsOf e) = some (el x) := by
      intro k
      induction k with
      | zero => exact fun _ => ⟨[], rfl, by simp, by simp⟩
      | succ k ih =>
        intro hk
        obtain ⟨l, h1, h2, h3⟩ := ih (by omega)
        obtain ⟨x, hx⟩ := hchoose k
        obtain ⟨y, rfl, hq, hc⟩ := hx (by omega)
        refine ⟨l ++ [y], by simp [h1], ?_, ?_⟩
        · intro z hz
          rcases List.mem_append.1 hz with hz | hz
          · exact h2 z hz
          · have : z = y := by simpa using hz
            exact this ▸ hq
        · intro i z hz
          by_cases hi : i < l.length
          · rw [List.getElem?_append_left hi] at hz
            exact h3 i z hz
          · rw [List.getElem?_append_right (by omega)] at hz
            have hi0 : i - l.length = 0 := by
              cases hd : i - l.length with
              | zero => rfl
              | succ q => rw [hd] at hz; simp at hz
            rw [hi0] at hz
            have : z = y := by simpa using hz.symm
            subst this
            have : i = k := by omega
            rw [this]
            exact hc
    obtain ⟨l, h1, h2, h3⟩ := hl len (Nat.le_refl _)
    refine ⟨some a, l, m, by rw [h1], ?_, h2, ?_, by rw [h1]; omega⟩
    · intro j u hu
      obtain ⟨i, r, x, k1, k2, k3, k4⟩ := at_of_flat hel l j u hu
      refine ⟨a, rfl, ?_⟩
      have k5 := (World.cells?_some (h3 i x k1)).2.2 r (by rw [hsz]; exact k3)
      rw [k4, add_add'] at k5
      rw [k2, ← hsz]
      exact k5
    · rw [h1]
      refine Nat.le_trans ?_ hwt
      rw [hby]
      exact Nat.mul_le_mul_right _ (by omega)
theorem tr_of {ts : List TypeId} {ds : List (DataW Hh)} (hsz : (DataW.weightsEach P ts ds).all (· ≤ reachBytes) = true) {j : Nat} {v : Value} {d : DataW Hh} {p : List MemPlace} (ht : ts[j]? = some t) (hd : ds[j]? = some d)
    (h : DataW.Trod enc P W 0 (fun _ => true) true t v d p) : Tr enc P W t v.cells.toList := by
  obtain ⟨fuel, hf⟩ := h
  exact ⟨fuel, d, p, hf, fun n hn => by simpa using List.all_eq_true.1 hsz n (DataW.weights_mem_each ht hd n hn)⟩
end
end Go.Proofs.Ytghfoooldcbdnaa
set_option linter.unusedVariables false
set_option linter.unusedSimpArgs false
namespace Go.Proofs.Ytghfoooldcbdnaa.V
open Go.RowKit Go.Deep Go.Proofs.Ytghfoooldcbdnaa.SL

section
variable {Hh : Type} {enc : TypeId × Value → Hh} {W : World} {cs : List Value}
theorem flow_seen {a0 a1 a2 a3 a4 : Value} (h : Tr enc Try.prog W 51 [a0, a1, a2, a3, a4]) : ∃ (p : Int) (f t : ByteArray) (o d : Int), [a0, a1, a2, a3, a4] = [.int .i64 p, .string f, .string t, .int .i64 o, .int .i64 d] ∧ f.size ≤ reachBytes ∧ t.size ≤ reachBytes := by
  obtain ⟨_, h⟩ := h.struct Try.underlying51
  have c3 : Try.prog.cellsOf 3 = 1 := by kernel_rfl
  have c49 : Try.prog.cellsOf 49 = 1 := by kernel_rfl
  have h0 : Tr enc Try.prog W 3 [a0] := Tr.field h 0 rfl (n := 1) (by kernel_rfl)
  have h1 : Tr enc Try.prog W 49 [a1] := Tr.field h 1 rfl (n := 1) (by kernel_rfl)
  have h2 : Tr enc Try.prog W 49 [a2] := Tr.field h 2 rfl (n := 1) (by kernel_rfl)
  have h3 : Tr enc Try.prog W 3 [a3] := Tr.field h 3 rfl (n := 1) (by kernel_rfl)
  have h4 : Tr enc Try.prog W 3 [a4] := Tr.field h 4 rfl (n := 1) (by kernel_rfl)
  obtain ⟨p, e0, _⟩ := h0.int Try.underlying3
  obtain ⟨f, e1, q1⟩ := h1.string Try.underlying49
  obtain ⟨t, e2, q2⟩ := h2.string Try.underlying49
  obtain ⟨o, e3, _⟩ := h3.int Try.underlying3
  obtain ⟨d, e4, _⟩ := h4.int Try.underlying3
  simp only [List.cons.injEq, and_true] at e0 e1 e2 e3 e4
  subst e0 e1 e2 e3 e4
  exact ⟨p, f, t, o, d, rfl, q1, q2⟩
def RecQ (r : Rec) : Prop := r.fr.size ≤ reachBytes ∧ r.tt.size ≤ reachBytes
theorem len8 (h : cs.length = 8) : ∃ a0 a1 a2 a3 a4 a5 a6 a7, cs = [a0, a1, a2, a3, a4, a5, a6, a7] := by
  match cs, h with
  | [a0, a1, a2, a3, a4, a5, a6, a7], _ => exact ⟨_, _, _, _, _, _, _, _, rfl⟩
theorem rec_seen (h : Tr enc Try.prog W 54 cs) : ∃ r : Rec, cs = r.cells ∧ RecQ r := by
  obtain ⟨hl, h⟩ := h.struct Try.underlying54
  have c54 : Try.prog.cellsOf 54 = 8 := by kernel_rfl
  have c51 : Try.prog.cellsOf 51 = 5 := by kernel_rfl
  have c3 : Try.prog.cellsOf 3 = 1 := by kernel_rfl
  rw [c54] at hl
  obtain ⟨a0, a1, a2, a3, a4, a5, a6, a7, rfl⟩ := len8 hl
  have h0 : Tr enc Try.prog W 51 [a0, a1, a2, a3, a4] := Tr.field h 0 rfl (n := 5) (by kernel_rfl)
  have h1 : Tr enc Try.prog W 3 [a5] := Tr.field h 1 rfl (n := 1) (by kernel_rfl)
  have h2 : Tr enc Try.prog W 3 [a6] := Tr.field h 2 rfl (n := 1) (by kernel_rfl)
  have h3 : Tr enc Try.prog W 3 [a7] := Tr.field h 3 rfl (n := 1) (by kernel_rfl)
  obtain ⟨p, f, t, o, d, e0, q⟩ := flow_seen h0
  obtain ⟨b, e1, _⟩ := h1.int Try.underlying3
  obtain ⟨s, e2, _⟩ := h2.int Try.underlying3
  obtain ⟨l, e3, _⟩ := h3.int Try.underlying3
  simp only [List.cons.injEq, and_true] at e0 e1 e2 e3
  obtain ⟨rfl, rfl, rfl, rfl, rfl⟩ := e0
  subst e1 e2 e3
  exact ⟨⟨p, f, t, o, d, b, s, l⟩, rfl, q⟩

end
end Go.Proofs.Ytghfoooldcbdnaa.V
namespace Go.Proofs.Ytghfoooldcbdnaa
open Go.RowKit Go.Deep Go.Proofs.Ytghfoooldcbdnaa.SL
/-- One operation on a sender. -/
structure OpE where
  (kind now : Int)
  r : Rec
  (as0 an : Int)
  ag : Bool
  af : Int
abbrev OpE.cells (o : OpE) : List Value := [.int .i64 o.kind, .int .i64 o.now] ++ o.r.cells ++ [.int .i64 o.as0, .int .i64 o.an, .bool o.ag, .int .u64 o.af]
def OpE.Ok (o : OpE) : Prop := V.RecQ o.r ∧ 0 ≤ o.af ∧ o.af ≤ 18446744073709551615
end Go.Proofs.Ytghfoooldcbdnaa
set_option linter.unusedVariables false
set_option linter.unusedSimpArgs false
namespace Go.Proofs.Ytghfoooldcbdnaa
open Go.RowKit Go.Proofs.Ytghfoooldcbdnaa.SL Go.Proofs.YtghfoooldcbdnaaW.PrintWords
/-- A sender behind k operations. -/
structure SB (S : SS) (k : Nat) (s : Int) : Prop where
  ok : S.p.Ok k
  bat : S.p.Bat
  ss : S.s = s
  sr : 0 ≤ s ∧ s ≤ 4611686018427387904
theorem SB.mono {S : SS} {k j : Nat} {s : Int} (h : SB S k s) (hk : k ≤ j) : SB S j s := ⟨h.ok.mono hk, h.bat, h.ss, h.sr⟩
theorem SB.new (s ev : Int) (h : mayS s ev = true) : SB (SS.new s ev) 0 s := by
  obtain ⟨⟨h1, h2⟩, h3, h4⟩ : (0 ≤ s ∧ s ≤ 4611686018427387904) ∧ (1 ≤ ev ∧ ev ≤ 10000) := by simpa [mayS, inB, and_assoc] using h
  exact ⟨new_ok s ev ⟨h3, h4⟩, fun x hx => by simp [SS.new, SS.p] at hx, rfl, h1, h2⟩
theorem SB.add {S S1 : SS} {k : Nat} {s : Int} (h : SB S k s) {r : Rec} (h1 : S1.p = (S.p.add r).1) : SB S1 (k + 1) s :=
  ⟨by rw [h1]; exact h.ok.add r, by rw [h1]; exact h.bat.add r, by rw [show S1.s = S1.p.s from rfl, h1, (add_rg S.p r).2.1]; exact h.ss, h.sr⟩
theorem SB.take {S S1 : SS} {k : Nat} {s : Int} (h : SB S k s) {as0 an af now : Int} {ag : Bool} (h1 : S1.p = (S.p.take as0 an ag af now).1) : SB S1 k s :=
  ⟨by rw [h1]; exact h.ok.take _ _ _ _ _, by rw [h1]; exact h.bat.take _ _ _ _ _, by rw [show S1.s = S1.p.s from rfl, h1, (take_nx S.p as0 an ag af now).2]; exact h.ss, h.sr⟩
theorem SB.sends {S S1 : SS} {k : Nat} {s : Int} (h : SB S k s) (hk : k ≤ 1000000) {now : Int} (h1 : S1.p = (S.p.sends now).1) : SB S1 k s := by
  have hb := h.bat.sends h.ok hk (by rw [show S.p.s = S.s from rfl, h.ss]; exact h.sr) now
  exact ⟨by rw [h1]; exact h.ok.sends now, by rw [h1]; exact hb.1, by rw [show S1.s = S1.p.s from rfl, h1, hb.2.1]; exact h.ss, h.sr⟩
theorem SB.out {S : SS} {k : Nat} {s : Int} (h : SB S k s) (hk : k ≤ 1000000) (now : Int) : ∀ b ∈ (S.p.sends now).2, batchOk s b.1 b.2 = true := by
  have hb := (h.bat.sends h.ok hk (by rw [show S.p.s = S.s from rfl, h.ss]; exact h.sr) now).2.2
  rw [show S.p.s = S.s from rfl, h.ss] at hb
  exact hb
/-- A script's operation, as it lies. -/
abbrev OpE.cs (o : OpE) : List Value := [.int .i64 o.kind, .int .i64 o.now, .int .i64 o.r.pr, .string o.r.fr, .string o.r.tt, .int .i64 o.r.po, .int .i64 o.r.de, .int .i64 o.r.ba, .int .i64 o.r.st, .int .i64 o.r.le, .int .i64 o.as0, .int .i64 o.an, .bool o.ag, .int .u64 o.af]
theorem bt_v {bl : List Bt} {o : List (Int × List Rec)} (h : bl.map Bt.v = o) {j : Nat} {b : Bt} (hb : bl[j]? = some b) : o[j]? = some (b.n, b.l) := by
  rw [← h, List.getElem?_map, hb]
  rfl
theorem loop_len (now : Int) : ∀ (f : Nat) (P : SP) (o : List (Int × List Rec)), (loopP now f P o).2.length ≤ o.length + f
  | 0, P, o => Nat.le_refl _
  | f + 1, P, o => by
    rw [loopP]
    split
    · have := loop_len now f (P.step now) (o ++ [(P.nx, P.q.take (Ytghfoooldcbdnaa.room P.q))])
      rw [List.length_append, List.length_singleton] at this
      omega
    · show o.length ≤ _
      omega
theorem SB.len {S : SS} {k : Nat} {s : Int} (h : SB S k s) (now : Int) : (S.p.sends now).2.length ≤ 272 := by
  unfold SP.sends
  split
  · refine Nat.le_trans (loop_len now _ _ _) ?_
    rw [List.length_map]
    have h2 := List.length_filter_le (fun x : Int × List Rec × Int => decide (x.2.2 ≤ now)) S.p.rg
    have h3 := h.ok.ql
    have h4 := h.ok.rg
    omega
  · simp
end Go.Proofs.Ytghfoooldcbdnaa
set_option linter.unusedVariables false
set_option linter.unusedSimpArgs false
namespace Go.Proofs.Ytghfoooldcbdnaa
open Go.RowKit Go.Proofs.Ytghfoooldcbdnaa.SL Go.Proofs.YtghfoooldcbdnaaW.PrintWords

end Go.Proofs.Ytghfoooldcbdnaa
set_option linter.unusedVariables false
set_option linter.unusedSimpArgs false
namespace Go.Proofs.Ytghfoooldcbdnaa
open Go.RowKit Go.Proofs.Ytghfoooldcbdnaa.SL Go.Proofs.YtghfoooldcbdnaaW.PrintWords
/-- A batch's records, read. -/
def Bt.sn (b : Bt) : As := SL.seen b.A (recs b.l)
theorem bts_app (s : Int) (l : List Bt) (b : Bt) : bts s l ++ [.int .i64 s, .int .i64 b.n, .slice b.A b.l.length b.c] = bts s (l ++ [b]) := by
  simp only [bts, List.flatMap_append, List.flatMap_cons, List.flatMap_nil, List.append_nil]
end Go.Proofs.Ytghfoooldcbdnaa
set_option linter.unusedVariables false
set_option linter.unusedSimpArgs false
namespace Go.Proofs.Ytghfoooldcbdnaa.SL
open Go.RowKit Go.Proofs.YtghfoooldcbdnaaW.PrintWords
theorem Sat.under {w : World} {A : As} {H H' : List As} (hh : ∀ F, Sat H F w → Sat H' F w) {F : Nat → Prop} : Sat (A :: H) F w → Sat (A :: H') F w
  | ⟨F1, h1, h2, h3⟩ => ⟨F1, h1, h2, hh _ h3⟩
theorem sat_unstar {w : World} {L H : List As} {F : Nat → Prop} (h : Sat (star L :: H) F w) : Sat (L ++ H) F w := by
  obtain ⟨F1, h1, h2, h3⟩ := h
  exact (Sat.append (show Sat L F1 w from h2) h3 (fun b hb hc => hc.2 hb)).up (fun b hb => hb.elim (h1 b) (fun hc => hc.1))
section
variable {B : Nat} {w0 w : World} {H L : List As} {A : As} {i : Nat}
end
end Go.Proofs.Ytghfoooldcbdnaa.SL
namespace Go.Proofs.Ytghfoooldcbdnaa
open Go.RowKit Go.Proofs.Ytghfoooldcbdnaa.SL Go.Proofs.YtghfoooldcbdnaaW.PrintWords
/-- A batch's records, whatever they are. -/
def Bt.wr (b : Bt) : As where
  sat F w := ∃ xs, (row (.slice b.A b.l.length b.c) 53 8 b.l.length xs).sat F w
  loc h hk := by
    obtain ⟨xs, h⟩ := h
    exact ⟨xs, As.loc _ h hk⟩
  up h hk := by
    obtain ⟨xs, h⟩ := h
    exact ⟨xs, As.up _ h hk⟩
section
variable {B : Nat} {w0 w : World} {H : List As} {b : Bt}
end
end Go.Proofs.Ytghfoooldcbdnaa
