/-
  PART 13 OF THE PROOF OF SyncinEnds: laid together from the proof's own texts: Wait, Lst1, Tlk1, Tlk2, Tlk3.
-/
import Derived.Test.YtghfoooldcbdnaaEnd11
import Derived.Test.YtghfoooldcbdnaaEnd12
set_option linter.unusedVariables false
set_option linter.unusedSimpArgs false
namespace Go.Proofs.Ytghfoooldcbdnaa
open Go.RowKit Go.Proofs.Ytghfoooldcbdnaa.SL Go.Proofs.YtghfoooldcbdnaaW.PrintWords
/-- What waits stands in the queue, or in the ring. -/
def SP.Wt (P : SP) : Prop := ∀ f, (kmk P.kn f).1 = 1 → (∃ r ∈ P.q, r.fl = f) ∨ ∃ x ∈ P.rg, x.1 = (kmk P.kn f).2 ∧ ∃ r ∈ x.2.1, r.fl = f
theorem idxQ_some {q : List Rec} {f : Fl} {k : Nat} (h : idxQ q f = some k) : ∃ r, q[k]? = some r ∧ r.fl = f := by
  unfold idxQ at h
  rw [List.findIdx?_eq_some_iff_getElem] at h
  obtain ⟨hk, h1, _⟩ := h
  exact ⟨q[k], List.getElem?_eq_getElem hk, by simpa using h1⟩
theorem new_wt (s ev : Int) : (SS.new s ev).p.Wt := by
  intro f h
  simp [SS.new, SS.p, kmk] at h
theorem SP.Wt.add {P : SP} (h : P.Wt) (r : Rec) : (P.add r).1.Wt := by
  unfold SP.add
  split
  · cases hq : idxQ P.q r.fl with
    | some k =>
      dsimp only
      intro f hf
      dsimp only at hf ⊢
      rw [kmk_pt] at hf ⊢
      by_cases e : f = r.fl
      · obtain ⟨x, hx, _⟩ := idxQ_some hq
        have hk := (List.getElem?_eq_some_iff.1 hx).1
        exact .inl ⟨r, List.mem_set hk r, e.symm⟩
      · rw [if_neg e] at hf ⊢
        rcases h f hf with ⟨x, hx, hxf⟩ | h2
        · left
          refine ⟨x, ?_, hxf⟩
          obtain ⟨y, hy, hyf⟩ := idxQ_some hq
          obtain ⟨i, hi⟩ := List.getElem?_of_mem hx
          have : i ≠ k := by
            rintro rfl
            rw [hy] at hi
            injection hi with hi
            subst hi
            exact e (hxf.symm.trans hyf)
          refine List.mem_of_getElem? (i := i) ?_
          rw [List.getElem?_set_ne (Ne.symm this)]
          exact hi
        · exact .inr h2
    | none =>
      dsimp only
      split
      · exact h
      · intro f hf
        dsimp only at hf ⊢
        rw [kmk_pt] at hf ⊢
        by_cases e : f = r.fl
        · exact .inl ⟨r, by simp, e.symm⟩
        · rw [if_neg e] at hf ⊢
          rcases h f hf with ⟨x, hx, hxf⟩ | h2
          · exact .inl ⟨x, by simp [hx], hxf⟩
          · exact .inr h2
  · exact h
theorem SP.Wt.rgMap {P : SP} (h : P.Wt) (g : Int × List Rec × Int → Int × List Rec × Int) (h1 : ∀ x, (g x).1 = x.1) (h2 : ∀ x, (g x).2.1 = x.2.1) : ({ P with rg := P.rg.map g } : SP).Wt := by
  intro f hf
  rcases h f hf with h3 | ⟨x, hx, hn, r, hr, hrf⟩
  · exact .inl h3
  · exact .inr ⟨g x, List.mem_map_of_mem hx, by rw [h1]; exact hn, r, by rw [h2]; exact hr, hrf⟩
/-- What is known of the flows of a batch that is made. -/
theorem fold_kpt (n : Int) : ∀ (l : List Rec) (kn : List (Fl × Int × Int)) (f : Fl), kmk (l.foldl (fun kn r => kpt kn r.fl (1, n)) kn) f = if (∃ r ∈ l, r.fl = f) then (1, n) else kmk kn f
  | [], kn, f => by simp
  | r :: l, kn, f => by
    rw [List.foldl_cons, fold_kpt n l]
    by_cases h : ∃ x ∈ l, x.fl = f
    · rw [if_pos h, if_pos (by obtain ⟨x, hx, e⟩ := h; exact ⟨x, by simp [hx], e⟩)]
    · rw [if_neg h, kmk_pt]
      by_cases e : f = r.fl
      · rw [if_pos e, if_pos ⟨r, by simp, e.symm⟩]
      · rw [if_neg e, if_neg]
        rintro ⟨x, hx, hxf⟩
        rcases List.mem_cons.1 hx with rfl | hx
        · exact e hxf.symm
        · exact h ⟨x, hx, hxf⟩
theorem SP.Wt.step {P : SP} (h : P.Wt) (now : Int) : (P.step now).Wt := by
  intro f hf
  unfold SP.step at hf ⊢
  dsimp only at hf ⊢
  rw [fold_kpt] at hf ⊢
  by_cases hm : ∃ r ∈ P.q.take (Ytghfoooldcbdnaa.room P.q), r.fl = f
  · rw [if_pos hm]
    exact .inr ⟨_, by rw [List.mem_append]; exact .inr (List.mem_singleton.2 rfl), rfl, hm⟩
  · rw [if_neg hm] at hf ⊢
    rcases h f hf with ⟨r, hr, hrf⟩ | ⟨x, hx, h2⟩
    · left
      rw [← List.take_append_drop (Ytghfoooldcbdnaa.room P.q) P.q] at hr
      rcases List.mem_append.1 hr with hr | hr
      · exact absurd ⟨r, hr, hrf⟩ hm
      · exact ⟨r, hr, hrf⟩
    · exact .inr ⟨x, by rw [List.mem_append]; exact .inl hx, h2⟩
theorem SP.Wt.loop (now : Int) : ∀ (f : Nat) (P : SP) (o : List (Int × List Rec)), P.Wt → (loopP now f P o).1.Wt
  | 0, P, o, h => h
  | f + 1, P, o, h => by
    rw [loopP]
    split
    · exact SP.Wt.loop now f _ _ (h.step now)
    · exact h
theorem SP.Wt.sends {P : SP} (h : P.Wt) (now : Int) : (P.sends now).1.Wt := by
  unfold SP.sends
  split
  · exact SP.Wt.loop now _ _ _ (h.rgMap _ (pAgain_1 now P.ev) (pAgain_2 now P.ev))
  · exact h
/-- What an answer leaves of what is known. -/
theorem tk_known (kn : List (Fl × Int × Int)) (an af : Int) (l : List Rec) (f : Fl) : ∀ j, (kmk (tk kn an af l j) f = kmk kn f ∧ (kmk kn f ≠ (1, an) ∨ ∀ r ∈ l.take j, r.fl ≠ f)) ∨ (kmk kn f = (1, an) ∧ ∃ i, (i < j ∧ ∃ r, l[i]? = some r ∧ r.fl = f) ∧ kmk (tk kn an af l j) f = (if bitA af i = true then 3 else 2, an))
  | 0 => by
    left
    exact ⟨rfl, .inr (by simp)⟩
  | j + 1 => by
    have ih := tk_known kn an af l f j
    unfold tk
    cases hr : l[j]? with
    | none =>
      dsimp only
      rcases ih with ⟨h1, h2⟩ | ⟨h1, i, hi, h2⟩
      · left
        refine ⟨h1, h2.imp id (fun h r hm => ?_)⟩
        rw [List.take_add_one, hr] at hm
        exact h r (by simpa using hm)
      · exact .inr ⟨h1, i, ⟨by omega, hi.2⟩, h2⟩
    | some r =>
      dsimp only
      rcases ih with ⟨h1, h2⟩ | ⟨h1, i, hi, h2⟩
      · by_cases hf : f = r.fl
        · subst hf
          by_cases hk : kmk kn r.fl = (1, an)
          · rw [h1, if_pos hk, kmk_pt, if_pos rfl]
            exact .inr ⟨hk, j, ⟨by omega, r, hr, rfl⟩, rfl⟩
          · rw [h1, if_neg hk]
            exact .inl ⟨h1, .inl hk⟩
        · left
          constructor
          · split
            · rw [kmk_pt, if_neg hf]; exact h1
            · exact h1
          · refine h2.imp id (fun h x hm => ?_)
            rw [List.take_add_one, hr] at hm
            rcases List.mem_append.1 hm with hm | hm
            · exact h x hm
            · have : x = r := by simpa using hm
              subst this
              exact fun e => hf e.symm
      · right
        refine ⟨h1, i, ⟨by omega, hi.2⟩, ?_⟩
        split
        · rename_i hc
          rw [kmk_pt]
          by_cases hf : f = r.fl
          · subst hf
            rw [h2] at hc
            exfalso
            have := congrArg Prod.fst hc
            dsimp only at this
            split at this <;> omega
          · rw [if_neg hf]; exact h2
        · exact h2
theorem SP.Wt.take {P : SP} (h : P.Wt) (as0 an : Int) (ag : Bool) (af now : Int) : (P.take as0 an ag af now).1.Wt := by
  unfold SP.take
  split
  · split
    · exact h.rgMap _ (pLate_1 an now) (pLate_2 an now)
    · cases hi : P.rg.findIdx? (fun x => decide (x.1 = an)) with
      | none => exact h
      | some k =>
        dsimp only
        cases hx : P.rg[k]? with
        | none => exact h
        | some x =>
          intro f hf
          dsimp only at hf ⊢
          have hxn : x.1 = an := by
            rw [List.findIdx?_eq_some_iff_getElem] at hi
            obtain ⟨hk, h1, _⟩ := hi
            rw [List.getElem?_eq_getElem hk] at hx
            injection hx with hx
            subst hx
            simpa using h1
          rcases tk_known P.kn an af x.2.1 f x.2.1.length with ⟨h1, h2⟩ | ⟨h1, i, hi, h2⟩
          · rw [h1] at hf ⊢
            rcases h f hf with h3 | ⟨y, hy, hn, r, hr, hrf⟩
            · exact .inl h3
            · right
              refine ⟨y, ?_, hn, r, hr, hrf⟩
              obtain ⟨i, hyi⟩ := List.getElem?_of_mem hy
              rw [List.mem_eraseIdx_iff_getElem?]
              refine ⟨i, ?_, hyi⟩
              intro e
              rw [e, hx] at hyi
              injection hyi with hyi
              subst hyi
              rcases h2 with h2 | h2
              · exact h2 (Prod.ext hf (by rw [← hn, hxn]))
              · exact h2 r (by rw [List.take_length]; exact hr) hrf
          · exfalso
            rw [h2] at hf
            dsimp only at hf
            split at hf <;> omega
  · exact h
/-- What is known of a flow never falls back to nothing. -/
theorem add_known (P : SP) (r : Rec) (f : Fl) (h : 1 ≤ (kmk P.kn f).1) : 1 ≤ (kmk (P.add r).1.kn f).1 := by
  unfold SP.add
  split
  · cases idxQ P.q r.fl with
    | some k =>
      dsimp only
      rw [kmk_pt]
      split
      · omega
      · exact h
    | none =>
      dsimp only
      split
      · exact h
      · dsimp only
        rw [kmk_pt]
        split
        · omega
        · exact h
  · exact h
theorem add_yes {P : SP} {r : Rec} (h : (P.add r).2 = true) : kmk (P.add r).1.kn r.fl = (1, 0) := by
  unfold SP.add at h ⊢
  by_cases hr : r.ok = true
  · rw [if_pos hr] at h ⊢
    cases hq : idxQ P.q r.fl with
    | some k =>
      dsimp only
      rw [kmk_pt, if_pos rfl]
    | none =>
      rw [hq] at h
      dsimp only at h ⊢
      by_cases hl : 256 ≤ P.q.length
      · rw [if_pos hl] at h; cases h
      · rw [if_neg hl]
        dsimp only
        rw [kmk_pt, if_pos rfl]
  · rw [if_neg hr] at h; cases h
theorem step_known (P : SP) (now : Int) (f : Fl) : kmk (P.step now).kn f = kmk P.kn f ∨ kmk (P.step now).kn f = (1, P.nx) := by
  unfold SP.step
  dsimp only
  rw [fold_kpt]
  split
  · exact .inr rfl
  · exact .inl rfl
theorem loop_known (now : Int) (f : Fl) : ∀ (n : Nat) (P : SP) (o : List (Int × List Rec)), (kmk (loopP now n P o).1.kn f).1 = (kmk P.kn f).1 ∨ (kmk (loopP now n P o).1.kn f).1 = 1
  | 0, P, o => .inl rfl
  | n + 1, P, o => by
    rw [loopP]
    split
    · rcases loop_known now f n (P.step now) (o ++ [(P.nx, P.q.take (Ytghfoooldcbdnaa.room P.q))]) with h | h
      · rcases step_known P now f with h2 | h2
        · rw [h, h2]; exact .inl rfl
        · rw [h, h2]; exact .inr rfl
      · exact .inr h
    · exact .inl rfl
theorem sends_known (P : SP) (now : Int) (f : Fl) : (kmk (P.sends now).1.kn f).1 = (kmk P.kn f).1 ∨ (kmk (P.sends now).1.kn f).1 = 1 := by
  unfold SP.sends
  split
  · exact loop_known now f _ _ _
  · exact .inl rfl
theorem take_known (P : SP) (as0 an : Int) (ag : Bool) (af now : Int) (f : Fl) : (kmk (P.take as0 an ag af now).1.kn f).1 = (kmk P.kn f).1 ∨ (kmk P.kn f).1 = 1 ∧ ∃ i, (kmk (P.take as0 an ag af now).1.kn f).1 = if bitA af i = true then 3 else 2 := by
  unfold SP.take
  split
  · split
    · exact .inl rfl
    · cases hi : P.rg.findIdx? (fun x => decide (x.1 = an)) with
      | none => exact .inl rfl
      | some k =>
        dsimp only
        cases hx : P.rg[k]? with
        | none => exact .inl rfl
        | some x =>
          dsimp only
          rcases tk_known P.kn an af x.2.1 f x.2.1.length with ⟨h1, _⟩ | ⟨h1, i, hi, h2⟩
          · exact .inl (by rw [h1])
          · exact .inr ⟨by rw [h1], i, by rw [h2]⟩
  · exact .inl rfl
/-- Nothing waits where nothing is queued, nor on its way. -/
theorem SP.Wt.done {P : SP} (h : P.Wt) (hq : P.q = []) (hr : P.rg = []) (f : Fl) : (kmk P.kn f).1 ≠ 1 := by
  intro hf
  rcases h f hf with ⟨r, hr2, _⟩ | ⟨x, hx, _⟩
  · rw [hq] at hr2; cases hr2
  · rw [hr] at hx; cases hx

/-! ### A round -/
/-- Sending goes on till the queue is empty, or there is no room. -/
theorem loop_end (now : Int) : ∀ (f : Nat) (P : SP) (o : List (Int × List Rec)), (∀ r ∈ P.q, r.ok = true) → P.q.length ≤ f → (loopP now f P o).1.q = [] ∨ (loopP now f P o).1.room = false
  | 0, P, o, hq, hl => .inl (List.eq_nil_of_length_eq_zero (by show P.q.length = 0; omega))
  | f + 1, P, o, hq, hl => by
    rw [loopP]
    split
    · rename_i hc
      have hpos : 0 < P.q.length := by
        cases h0 : P.q with
        | nil => rw [h0] at hc; simp at hc
        | cons _ _ => simp
      have := rm_pos hq hpos
      refine loop_end now f (P.step now) _ (fun r hr => hq r (List.mem_of_mem_drop hr)) ?_
      show (P.q.drop (Ytghfoooldcbdnaa.room P.q)).length ≤ f
      rw [List.length_drop]
      omega
    · rename_i hc
      by_cases h1 : P.q.isEmpty = false
      · right
        cases hr : P.room with
        | false => rfl
        | true => exact absurd ⟨h1, hr⟩ hc
      · left
        simpa using h1
/-- What is on its way is what was handed out. -/
theorem loop_nums (now : Int) : ∀ (f : Nat) (P : SP) (o : List (Int × List Rec)), P.rg.map (·.1) = o.map (·.1) → (loopP now f P o).1.rg.map (·.1) = (loopP now f P o).2.map (·.1)
  | 0, P, o, h => h
  | f + 1, P, o, h => by
    rw [loopP]
    split
    · refine loop_nums now f _ _ ?_
      show (P.rg ++ [(P.nx, P.q.take (Ytghfoooldcbdnaa.room P.q), now + P.ev)]).map (·.1) = _
      rw [List.map_append, List.map_append, h]
      rfl
    · exact h
/-- Each batch is due at such a time. -/
def SP.Due (P : SP) (t : Int) : Prop := ∀ x ∈ P.rg, x.2.2 ≤ t
theorem sends_nums {P : SP} {now : Int} (h0 : 0 ≤ now) (h1 : now ≤ 1099511627776) (hd : P.Due now) : (P.sends now).1.rg.map (·.1) = (P.sends now).2.map (·.1) := by
  unfold SP.sends
  rw [if_pos ⟨h0, h1⟩]
  refine loop_nums now _ _ _ ?_
  have e : P.rg.filter (fun x => decide (x.2.2 ≤ now)) = P.rg := List.filter_eq_self.2 (fun x hx => by simpa using hd x hx)
  rw [e]
  simp only [List.map_map]
  exact List.map_congr_left (fun x _ => pAgain_1 now P.ev x)
/-- From an empty ring on. -/
structure Fresh (P : SP) (n0 : Int) (q0 : Nat) : Prop where
  rg : P.rg = [] ∧ P.nx = n0 ∨ ∃ x, P.rg[0]? = some x ∧ x.1 = n0 ∧ (P.rg.length : Int) = P.nx - n0
  q : (P.q.length : Int) + (P.nx - n0) ≤ q0
  ok : ∀ r ∈ P.q, r.ok = true
theorem Fresh.loop {n0 : Int} {q0 : Nat} (now : Int) : ∀ (f : Nat) (P : SP) (o : List (Int × List Rec)), Fresh P n0 q0 → Fresh (loopP now f P o).1 n0 q0
  | 0, P, o, h => h
  | f + 1, P, o, h => by
    rw [loopP]
    split
    · rename_i hc
      have hpos : 0 < P.q.length := by
        cases h0 : P.q with
        | nil => rw [h0] at hc; simp at hc
        | cons _ _ => simp
      have hp := rm_pos h.ok hpos
      refine Fresh.loop now f (P.step now) _ ⟨?_, ?_, fun r hr => h.ok r (List.mem_of_mem_drop hr)⟩
      · right
        rcases h.rg with ⟨h1, h2⟩ | ⟨x, h1, h2, h3⟩
        · refine ⟨(P.nx, P.q.take (Ytghfoooldcbdnaa.room P.q), now + P.ev), ?_, h2, ?_⟩
          · show (P.rg ++ [_])[0]? = some _
            rw [h1]; rfl
          · show ((P.rg ++ [_]).length : Int) = P.nx + 1 - n0
            rw [h1]; simp; omega
        · refine ⟨x, ?_, h2, ?_⟩
          · show (P.rg ++ [_])[0]? = some _
            rw [List.getElem?_append_left (List.getElem?_eq_some_iff.1 h1).1]; exact h1
          · show ((P.rg ++ [_]).length : Int) = P.nx + 1 - n0
            rw [List.length_append, List.length_singleton]; omega
      · show ((P.q.drop (Ytghfoooldcbdnaa.room P.q)).length : Int) + (P.nx + 1 - n0) ≤ q0
        rw [List.length_drop]
        have := h.q
        omega
    · exact h
/-- Where nothing is on its way, Send empties the queue or takes sixteen records at least from it. -/
theorem sends_fresh {P : SP} {now : Int} (h0 : 0 ≤ now) (h1 : now ≤ 1099511627776) (hq : ∀ r ∈ P.q, r.ok = true) (hr : P.rg = []) : (P.sends now).1.q = [] ∨ (P.sends now).1.q.length + 16 ≤ P.q.length := by
  have hs : P.sends now = loopP now P.q.length P [] := by
    obtain ⟨s, ev, nx, q, rg, kn⟩ := P
    dsimp only at hr
    subst hr
    unfold SP.sends
    rw [if_pos ⟨h0, h1⟩]
    rfl
  rw [hs]
  have h2 := Fresh.loop (n0 := P.nx) (q0 := P.q.length) now P.q.length P [] ⟨.inl ⟨hr, rfl⟩, by omega, hq⟩
  rcases loop_end now P.q.length P [] hq (Nat.le_refl _) with h3 | h3
  · exact .inl h3
  · right
    have hql := h2.q
    have hx : 16 ≤ (loopP now P.q.length P []).1.nx - P.nx := by
      rcases h2.rg with ⟨h4, _⟩ | ⟨x, h4, h5, h6⟩
      · unfold SP.room at h3
        rw [h4] at h3
        simp at h3
      · unfold SP.room at h3
        rw [h4] at h3
        simp at h3
        omega
    omega
theorem sends_rest {P : SP} (now : Int) : (P.sends now).1.q.length ≤ P.q.length := by
  have hl : ∀ (f : Nat) (P : SP) (o : List (Int × List Rec)), (loopP now f P o).1.q.length ≤ P.q.length := by
    intro f
    induction f with
    | zero => intro P o; exact Nat.le_refl _
    | succ f ih =>
      intro P o
      rw [loopP]
      split
      · refine Nat.le_trans (ih _ _) ?_
        show (P.q.drop (Ytghfoooldcbdnaa.room P.q)).length ≤ _
        rw [List.length_drop]
        omega
      · exact Nat.le_refl _
  unfold SP.sends
  split
  · exact hl _ _ _
  · exact Nat.le_refl _
theorem take_q (P : SP) (as0 an : Int) (ag : Bool) (af now : Int) : (P.take as0 an ag af now).1.q = P.q := by
  unfold SP.take
  split
  · split
    · rfl
    · cases P.rg.findIdx? (fun x => decide (x.1 = an)) with
      | none => rfl
      | some i =>
        dsimp only
        cases P.rg[i]? with
        | none => rfl
        | some x => rfl
  · rfl
/-- The oldest batch is answered. -/
theorem take_head {P : SP} {x : Int × List Rec × Int} {t : List (Int × List Rec × Int)} (h : P.rg = x :: t) (af now : Int) : (P.take P.s x.1 false af now).2 = true ∧ (P.take P.s x.1 false af now).1.rg = t := by
  unfold SP.take
  rw [if_pos rfl, if_neg (by simp)]
  have e : P.rg.findIdx? (fun y => decide (y.1 = x.1)) = some 0 := by rw [h]; simp [List.findIdx?_cons]
  rw [e]
  dsimp only
  rw [show P.rg[0]? = some x from by rw [h]; rfl]
  exact ⟨rfl, by rw [h]; rfl⟩
end Go.Proofs.Ytghfoooldcbdnaa
set_option linter.unusedVariables false
set_option linter.unusedSimpArgs false
namespace Go.Proofs.Ytghfoooldcbdnaa
open Go.RowKit Go.Proofs.Ytghfoooldcbdnaa.SL Go.Proofs.YtghfoooldcbdnaaW.PrintWords
theorem loop_ev (now : Int) : ∀ (f : Nat) (P : SP) (o : List (Int × List Rec)), (loopP now f P o).1.ev = P.ev
  | 0, P, o => rfl
  | f + 1, P, o => by
    rw [loopP]
    split
    · exact loop_ev now f (P.step now) _
    · rfl
theorem sends_ev (P : SP) (now : Int) : (P.sends now).1.ev = P.ev := by
  unfold SP.sends
  split
  · exact loop_ev now _ _ _
  · rfl
theorem add_ev (P : SP) (r : Rec) : (P.add r).1.ev = P.ev := by
  unfold SP.add
  split
  · cases idxQ P.q r.fl with
    | some k => rfl
    | none => dsimp only; split <;> rfl
  · rfl
theorem take_ev (P : SP) (as0 an : Int) (ag : Bool) (af now : Int) : (P.take as0 an ag af now).1.ev = P.ev := by
  unfold SP.take
  split
  · split
    · rfl
    · cases P.rg.findIdx? (fun x => decide (x.1 = an)) with
      | none => rfl
      | some i =>
        dsimp only
        cases P.rg[i]? with
        | none => rfl
        | some x => rfl
  · rfl
theorem loop_due {t now : Int} : ∀ (f : Nat) (P : SP) (o : List (Int × List Rec)), P.Due t → now + P.ev ≤ t → (loopP now f P o).1.Due t
  | 0, P, o, h, _ => h
  | f + 1, P, o, h, ht => by
    rw [loopP]
    split
    · refine loop_due f (P.step now) _ (fun x hx => ?_) ht
      rcases List.mem_append.1 hx with hx | hx
      · exact h x hx
      · rw [List.mem_singleton.1 hx]; exact ht
    · exact h
theorem sends_due {P : SP} {t now : Int} (h : P.Due t) (ht : now + P.ev ≤ t) : (P.sends now).1.Due t := by
  unfold SP.sends
  split
  · refine loop_due _ _ _ (fun x hx => ?_) ht
    obtain ⟨y, hy, rfl⟩ := List.mem_map.1 hx
    unfold pAgain
    split
    · exact ht
    · exact h y hy
  · exact h
/-- A sender, and what was added to it. -/
structure LA (S : SS) (k : Nat) (added : List Fl) : Prop where
  sb : SB S k 1
  ev : S.p.ev = 10
  wt : S.p.Wt
  kn : ∀ f ∈ added, (kmk S.p.kn f).1 = 1 ∨ (kmk S.p.kn f).1 = 2
theorem LA.new : LA (SS.new 1 10) 0 [] := ⟨SB.new 1 10 (by decide), rfl, new_wt 1 10, fun f hf => by cases hf⟩
theorem LA.mono {S : SS} {k j : Nat} {a : List Fl} (h : LA S k a) (hk : k ≤ j) : LA S j a := ⟨h.sb.mono hk, h.ev, h.wt, h.kn⟩
theorem add_one (P : SP) (r : Rec) (f : Fl) : kmk (P.add r).1.kn f = kmk P.kn f ∨ kmk (P.add r).1.kn f = (1, 0) := by
  unfold SP.add
  split
  · cases idxQ P.q r.fl with
    | some k =>
      dsimp only
      rw [kmk_pt]
      split
      · exact .inr rfl
      · exact .inl rfl
    | none =>
      dsimp only
      split
      · exact .inl rfl
      · dsimp only
        rw [kmk_pt]
        split
        · exact .inr rfl
        · exact .inl rfl
  · exact .inl rfl
theorem LA.add {S S1 : SS} {k : Nat} {a : List Fl} (h : LA S k a) {r : Rec} (h1 : S1.p = (S.p.add r).1) : LA S1 (k + 1) a :=
  ⟨h.sb.add h1, by rw [h1, add_ev]; exact h.ev, by rw [h1]; exact h.wt.add r, fun f hf => by
    rw [h1]
    rcases add_one S.p r f with e | e
    · rw [e]; exact h.kn f hf
    · rw [e]; exact .inl rfl⟩
theorem LA.added {S S1 : SS} {k : Nat} {a : List Fl} (h : LA S k a) {r : Rec} (h1 : S1.p = (S.p.add r).1) (h2 : (S.p.add r).2 = true) : LA S1 (k + 1) (a ++ [r.fl]) := by
  have h3 := h.add h1
  refine ⟨h3.sb, h3.ev, h3.wt, fun f hf => ?_⟩
  rcases List.mem_append.1 hf with hf | hf
  · exact h3.kn f hf
  · rw [List.mem_singleton.1 hf, h1, add_yes h2]
    exact .inl rfl
theorem LA.sends {S S1 : SS} {k : Nat} {a : List Fl} (h : LA S k a) (hk : k ≤ 1000000) {now : Int} (h1 : S1.p = (S.p.sends now).1) : LA S1 k a :=
  ⟨h.sb.sends hk h1, by rw [h1, sends_ev]; exact h.ev, by rw [h1]; exact h.wt.sends now, fun f hf => by
    rw [h1]
    rcases sends_known S.p now f with e | e
    · rw [e]; exact h.kn f hf
    · exact .inl e⟩
theorem bitA_zero (i : Nat) : bitA 0 i = false := by unfold bitA; simp
theorem LA.take {S S1 : SS} {k : Nat} {a : List Fl} (h : LA S k a) {n : Int} (h1 : S1.p = (S.p.take 1 n false 0 0).1) : LA S1 k a :=
  ⟨h.sb.take h1, by rw [h1, take_ev]; exact h.ev, by rw [h1]; exact h.wt.take _ _ _ _ _, fun f hf => by
    rw [h1]
    rcases take_known S.p 1 n false 0 0 f with e | ⟨_, i, e⟩
    · rw [e]; exact h.kn f hf
    · rw [e, bitA_zero]; exact .inr rfl⟩
/-- Ahead of round i. -/
structure LR (S : SS) (k : Nat) (a : List Fl) (i : Nat) : Prop where
  la : LA S k a
  st : (i = 0 ∧ S.p.Due 1099509627786) ∨ (0 < i ∧ S.p.rg = [] ∧ (S.p.q = [] ∨ S.p.q.length + 16 * (i - 1) ≤ 256))
/-- Within round i: what is left to be answered. -/
structure LQ (S : SS) (k : Nat) (a : List Fl) (i : Nat) (rest : List (Int × List Rec)) : Prop where
  la : LA S k a
  nums : S.p.rg.map (·.1) = rest.map (·.1)
  q : S.p.q = [] ∨ S.p.q.length + 16 * i ≤ 256
theorem LR.send {S S1 : SS} {k : Nat} {a : List Fl} {i : Nat} (h : LR S k a i) (hk : k ≤ 1000000) (hi : i < 60) (h1 : S1.p = (S.p.sends (1099510627776 + 20 * (i : Int))).1) : LQ S1 k a i (S.p.sends (1099510627776 + 20 * (i : Int))).2 := by
  have hla := h.la.sends hk h1
  refine ⟨hla, ?_, ?_⟩
  · rw [h1]
    refine sends_nums (by omega) (by omega) ?_
    rcases h.st with ⟨_, h2⟩ | ⟨_, h2, _⟩
    · intro x hx
      have := h2 x hx
      omega
    · intro x hx
      rw [h2] at hx
      cases hx
  · rcases h.st with ⟨h2, _⟩ | ⟨h2, h3, h4⟩
    · right
      have := hla.sb.ok.ql
      omega
    · rw [h1]
      have hf := sends_fresh (P := S.p) (now := 1099510627776 + 20 * (i : Int)) (by omega) (by omega) h.la.sb.ok.q h3
      have hr := sends_rest (P := S.p) (1099510627776 + 20 * (i : Int))
      rcases h4 with h4 | h4
      · left
        rw [h4] at hr
        exact List.eq_nil_of_length_eq_zero (by simpa using hr)
      · rcases hf with hf | hf
        · exact .inl hf
        · right
          omega
theorem LQ.take {S S1 : SS} {k : Nat} {a : List Fl} {i : Nat} {n : Int} {l : List Rec} {rest : List (Int × List Rec)} (h : LQ S k a i ((n, l) :: rest)) (h1 : S1.p = (S.p.take 1 n false 0 0).1) : LQ S1 k a i rest := by
  have hn := h.nums
  cases hr : S.p.rg with
  | nil => rw [hr] at hn; simp at hn
  | cons x t =>
    rw [hr] at hn
    simp only [List.map_cons, List.cons.injEq] at hn
    obtain ⟨e1, e2⟩ := hn
    have hh := take_head hr 0 0
    rw [show S.p.s = 1 from h.la.sb.ss, e1] at hh
    exact ⟨h.la.take h1, by rw [h1, hh.2]; exact e2, by rw [h1, take_q]; exact h.q⟩
theorem LQ.done {S : SS} {k : Nat} {a : List Fl} {i : Nat} (h : LQ S k a i []) : LR S k a (i + 1) :=
  ⟨h.la, .inr ⟨by omega, List.map_eq_nil_iff.1 h.nums, h.q⟩⟩
theorem LR.done {S : SS} {k : Nat} {a : List Fl} (h : LR S k a 60) : S.p.q.length = 0 ∧ S.p.rg.length = 0 ∧ ∀ f ∈ a, (kmk S.p.kn f).1 = 2 := by
  rcases h.st with ⟨h1, _⟩ | ⟨_, h2, h3⟩
  · omega
  · have hq : S.p.q = [] := by
      rcases h3 with h3 | h3
      · exact h3
      · omega
    refine ⟨by rw [hq]; rfl, by rw [h2]; rfl, fun f hf => ?_⟩
    rcases h.la.kn f hf with e | e
    · exact absurd e (h.la.wt.done hq h2 f)
    · exact e
end Go.Proofs.Ytghfoooldcbdnaa
set_option linter.unusedVariables false
set_option linter.unusedSimpArgs false
namespace Go.Proofs.Ytghfoooldcbdnaa
open Go.RowKit Go.Proofs.Ytghfoooldcbdnaa.SL Go.Proofs.YtghfoooldcbdnaaW.PrintWords
/-- The last batch of the session that was applied. -/
def RS.last9 (r : RS) : Int := if r.s = 9 then r.l else 0
structure TI (T : TK) (k c N : Nat) : Prop where
  ok : T.P.Ok k
  bat : T.P.Bat
  ss : T.P.s = 9
  ev : T.P.ev = 5
  wt : T.P.Wt
  inc : T.P.rg.Pairwise (fun x y => x.1 < y.1)
  fs : T.r.fs.length = 16
  d : 0 ≤ T.r.d
  rl : 0 ≤ T.r.l ∧ T.r.l ≤ 4611686018427387904
  fr : ∀ f ∈ T.r.fs, 0 ≤ f ∧ f ≤ 18446744073709551615
  l1 : T.r.last9 < T.P.nx
  cov : ∀ m, T.r.last9 < m → m < T.P.nx → ∃ x ∈ T.P.rg, x.1 = m
  bs : ∀ b ∈ T.bs, batchOk 9 b.1 b.2 = true ∧ b.1 < T.P.nx
  an : ∀ a ∈ T.ans, a.1 = 9 ∧ (0 ≤ a.2.2.2 ∧ a.2.2.2 ≤ 18446744073709551615) ∧ (a.2.2.1 = false → a.2.1 ≤ T.r.last9)
  cnt : (N : Int) + 64 * T.r.d + 192 * T.bs.length + 64 * T.ans.length ≤ 60000 * c
theorem TI.l0 {T : TK} {k c N : Nat} (h : TI T k c N) : 0 ≤ T.r.last9 := by
  unfold RS.last9
  split
  · exact h.rl.1
  · omega
theorem TI.tk {T : TK} {k c N : Nat} (h : TI T k c N) (hc : c ≤ 1000) : T.Ok k 1000000 := by
  have h1 := h.cnt
  have h2 := h.d
  exact ⟨h.ok, h.bat, h.ss, ⟨h.fs, ⟨h.d, by omega⟩, h.rl⟩, fun b hb => (h.bs b hb).1, by omega, by omega, fun a ha => (h.an a ha).2.1⟩
theorem TI.n {T : TK} {k c N : Nat} (h : TI T k c N) (hc : c ≤ 1000) : N ≤ 80000000 := by
  have h1 := h.cnt
  have h2 := h.d
  omega
def TK.new (s ev : Int) : TK := ⟨(SS.new s ev).p, RS.new, [], []⟩
theorem TI.new : TI (TK.new 9 5) 0 0 0 := by
  have hs := SB.new 9 5 (by decide)
  refine ⟨hs.ok, hs.bat, rfl, rfl, new_wt 9 5, List.Pairwise.nil, rfl, by decide, by decide, ?_, by decide, ?_, ?_, ?_, by decide⟩
  · intro f hf
    have : f = 0 := by simpa [TK.new, RS.new] using hf
    omega
  · intro m h1 h2
    have e1 : (TK.new 9 5).r.last9 = 0 := rfl
    have e2 : (TK.new 9 5).P.nx = 1 := rfl
    omega
  · intro b hb; simp [TK.new] at hb
  · intro b hb; simp [TK.new] at hb
/-- What sending keeps. -/
structure LI (last : Int) (P : SP) (o : List (Int × List Rec)) : Prop where
  inc : P.rg.Pairwise (fun x y => x.1 < y.1)
  rb : ∀ x ∈ P.rg, x.1 < P.nx
  cov : ∀ m, last < m → m < P.nx → ∃ x ∈ P.rg, x.1 = m
  ob : ∀ b ∈ o, b.1 < P.nx
theorem LI.step {last : Int} {P : SP} {o : List (Int × List Rec)} (h : LI last P o) (now : Int) : LI last (P.step now) (o ++ [(P.nx, P.q.take (Ytghfoooldcbdnaa.room P.q))]) := by
  refine ⟨?_, ?_, ?_, ?_⟩
  · show (P.rg ++ [(P.nx, P.q.take (Ytghfoooldcbdnaa.room P.q), now + P.ev)]).Pairwise _
    rw [List.pairwise_append]
    refine ⟨h.inc, List.pairwise_singleton _ _, ?_⟩
    intro a ha b hb
    rw [List.mem_singleton.1 hb]
    exact h.rb a ha
  · intro x hx
    show x.1 < P.nx + 1
    rcases List.mem_append.1 hx with hx | hx
    · have := h.rb x hx; omega
    · rw [List.mem_singleton.1 hx]
      show P.nx < P.nx + 1
      omega
  · intro m h1 h2
    have h2' : m < P.nx + 1 := h2
    by_cases hm : m = P.nx
    · exact ⟨_, List.mem_append.2 (.inr (List.mem_singleton.2 rfl)), hm.symm⟩
    · obtain ⟨x, hx, e⟩ := h.cov m h1 (by omega)
      exact ⟨x, List.mem_append.2 (.inl hx), e⟩
  · intro b hb
    show b.1 < P.nx + 1
    rcases List.mem_append.1 hb with hb | hb
    · have := h.ob b hb; omega
    · rw [List.mem_singleton.1 hb]
      show P.nx < P.nx + 1
      omega
theorem LI.loop {last now : Int} : ∀ (f : Nat) (P : SP) (o : List (Int × List Rec)), LI last P o → LI last (loopP now f P o).1 (loopP now f P o).2 ∧ P.nx ≤ (loopP now f P o).1.nx
  | 0, P, o, h => ⟨h, Int.le_refl _⟩
  | f + 1, P, o, h => by
    rw [loopP]
    split
    · have h1 := LI.loop (now := now) f _ _ (h.step now)
      refine ⟨h1.1, ?_⟩
      have h2 := h1.2
      have e : (P.step now).nx = P.nx + 1 := rfl
      omega
    · exact ⟨h, Int.le_refl _⟩
theorem LI.sends {last : Int} {P : SP} (h : LI last P []) (now : Int) : LI last (P.sends now).1 (P.sends now).2 ∧ P.nx ≤ (P.sends now).1.nx := by
  unfold SP.sends
  split
  · refine LI.loop _ { P with rg := P.rg.map (pAgain now P.ev) } _ ⟨?_, ?_, ?_, ?_⟩
    · show (P.rg.map _).Pairwise _
      rw [List.pairwise_map]
      exact h.inc.imp (fun {a b} hab => by rw [pAgain_1, pAgain_1]; exact hab)
    · intro x hx
      obtain ⟨y, hy, rfl⟩ := List.mem_map.1 hx
      rw [pAgain_1]; exact h.rb y hy
    · intro m h1 h2
      obtain ⟨x, hx, e⟩ := h.cov m h1 h2
      exact ⟨_, List.mem_map_of_mem hx, by rw [pAgain_1]; exact e⟩
    · intro b hb
      obtain ⟨x, hx, rfl⟩ := List.mem_map.1 hb
      exact h.rb x (List.mem_filter.1 hx).1
  · exact ⟨h, Int.le_refl _⟩
theorem TI.li {T : TK} {k c N : Nat} (h : TI T k c N) : LI T.r.last9 T.P [] := ⟨h.inc, fun x hx => (h.ok.xn x hx).2, h.cov, fun b hb => by cases hb⟩
theorem TI.mono {T : TK} {k j c e N M : Nat} (h : TI T k c N) (hk : k ≤ j) (hc : (M : Int) + 60000 * c ≤ (N : Int) + 60000 * e) : TI T j e M :=
  ⟨h.ok.mono hk, h.bat, h.ss, h.ev, h.wt, h.inc, h.fs, h.d, h.rl, h.fr, h.l1, h.cov, h.bs, h.an, by have := h.cnt; omega⟩
theorem TI.add {T : TK} {k c N : Nat} (h : TI T k c N) (r : Rec) : TI { T with P := (T.P.add r).1 } (k + 1) (c + 1) (N + 64) := by
  have e := add_rg T.P r
  refine ⟨h.ok.add r, h.bat.add r, by dsimp only; rw [e.2.1]; exact h.ss, by dsimp only; rw [add_ev]; exact h.ev, h.wt.add r, by dsimp only; rw [e.1]; exact h.inc, h.fs, h.d, h.rl, h.fr, by dsimp only; rw [e.2.2]; exact h.l1, by dsimp only; rw [e.1, e.2.2]; exact h.cov, by dsimp only; rw [e.2.2]; exact h.bs, h.an, ?_⟩
  have := h.cnt
  dsimp only
  omega
theorem TI.sb {T : TK} {k c N : Nat} (h : TI T k c N) (now : Int) (hk : k ≤ 1000000) : (T.P.sends now).2.length ≤ 272 ∧ ∀ b ∈ (T.P.sends now).2, batchOk 9 b.1 b.2 = true := by
  have h1 := h.bat.sends h.ok hk (by rw [h.ss]; decide) now
  rw [h.ss] at h1
  refine ⟨?_, h1.2.2⟩
  have hs : SB ⟨T.P.s, T.P.ev, T.P.nx, T.P.q, T.P.rg.map (fun x => ⟨x.1, x.2.1, none, 0, x.2.2⟩), T.P.kn⟩ k 9 := by
    have e : (⟨T.P.s, T.P.ev, T.P.nx, T.P.q, T.P.rg.map (fun x => ⟨x.1, x.2.1, none, 0, x.2.2⟩), T.P.kn⟩ : SS).p = T.P := by
      unfold SS.p
      rw [List.map_map, show (Sn.v ∘ fun x : Int × List Rec × Int => (⟨x.1, x.2.1, none, 0, x.2.2⟩ : Sn)) = id from rfl, List.map_id]
    exact ⟨by rw [e]; exact h.ok, by rw [e]; exact h.bat, h.ss, by decide⟩
  have h2 := hs.len now
  have e : (⟨T.P.s, T.P.ev, T.P.nx, T.P.q, T.P.rg.map (fun x => ⟨x.1, x.2.1, none, 0, x.2.2⟩), T.P.kn⟩ : SS).p = T.P := by
    unfold SS.p
    rw [List.map_map, show (Sn.v ∘ fun x : Int × List Rec × Int => (⟨x.1, x.2.1, none, 0, x.2.2⟩ : Sn)) = id from rfl, List.map_id]
  rw [e] at h2
  exact h2
theorem TI.send {T : TK} {k c N : Nat} (h : TI T k c N) (hk : k ≤ 1000000) (now : Int) : TI { T with P := (T.P.sends now).1, bs := T.bs ++ (T.P.sends now).2 } k (c + 1) (N + 64) := by
  have h1 := h.bat.sends h.ok hk (by rw [h.ss]; decide) now
  have h2 := h.li.sends now
  have h3 := h.sb now hk
  refine ⟨h.ok.sends now, h1.1, by dsimp only; rw [h1.2.1]; exact h.ss, by dsimp only; rw [sends_ev]; exact h.ev, h.wt.sends now, h2.1.inc, h.fs, h.d, h.rl, h.fr, ?_, h2.1.cov, ?_, h.an, ?_⟩
  · have := h.l1
    have := h2.2
    dsimp only
    omega
  · intro b hb
    dsimp only at hb ⊢
    rcases List.mem_append.1 hb with hb | hb
    · have g1 := h.bs b hb
      have g2 := h2.2
      exact ⟨g1.1, by omega⟩
    · exact ⟨h3.2 b hb, h2.1.ob b hb⟩
  · have := h.cnt
    have := h3.1
    dsimp only
    rw [List.length_append]
    omega
theorem TI.dup {T : TK} {k c N : Nat} (h : TI T k c N) {b : Int × List Rec} (hb : b ∈ T.bs) : TI { T with bs := T.bs ++ [b] } k (c + 1) (N + 64) := by
  refine ⟨h.ok, h.bat, h.ss, h.ev, h.wt, h.inc, h.fs, h.d, h.rl, h.fr, h.l1, h.cov, ?_, h.an, ?_⟩
  · intro x hx
    rcases List.mem_append.1 hx with hx | hx
    · exact h.bs x hx
    · rw [List.mem_singleton.1 hx]; exact h.bs b hb
  · have := h.cnt
    dsimp only
    rw [List.length_append, List.length_singleton]
    omega
theorem TI.lose {T : TK} {k c N : Nat} (h : TI T k c N) (i : Nat) : TI { T with bs := T.bs.eraseIdx i } k (c + 1) (N + 64) := by
  refine ⟨h.ok, h.bat, h.ss, h.ev, h.wt, h.inc, h.fs, h.d, h.rl, h.fr, h.l1, h.cov, fun x hx => h.bs x ((List.eraseIdx_sublist T.bs i).subset hx), h.an, ?_⟩
  have := h.cnt
  have := (List.eraseIdx_sublist T.bs i).length_le
  dsimp only
  omega
theorem TI.adup {T : TK} {k c N : Nat} (h : TI T k c N) {a : An} (ha : a ∈ T.ans) : TI { T with ans := T.ans ++ [a] } k (c + 1) (N + 64) := by
  refine ⟨h.ok, h.bat, h.ss, h.ev, h.wt, h.inc, h.fs, h.d, h.rl, h.fr, h.l1, h.cov, h.bs, ?_, ?_⟩
  · intro x hx
    rcases List.mem_append.1 hx with hx | hx
    · exact h.an x hx
    · rw [List.mem_singleton.1 hx]; exact h.an a ha
  · have := h.cnt
    dsimp only
    rw [List.length_append, List.length_singleton]
    omega
theorem TI.alose {T : TK} {k c N : Nat} (h : TI T k c N) (i : Nat) : TI { T with ans := T.ans.eraseIdx i } k (c + 1) (N + 64) := by
  refine ⟨h.ok, h.bat, h.ss, h.ev, h.wt, h.inc, h.fs, h.d, h.rl, h.fr, h.l1, h.cov, h.bs, fun x hx => h.an x ((List.eraseIdx_sublist T.ans i).subset hx), ?_⟩
  have := h.cnt
  have := (List.eraseIdx_sublist T.ans i).length_le
  dsimp only
  omega
/-- An answer comes. -/
theorem TI.answ {T : TK} {k c N : Nat} (h : TI T k c N) {i : Nat} {a : An} (ha : T.ans[i]? = some a) (now : Int) : TI { T with P := (T.P.take a.1 a.2.1 a.2.2.1 a.2.2.2 now).1, ans := T.ans.eraseIdx i } k c (N + 64) := by
  have hi := (List.getElem?_eq_some_iff.1 ha).1
  have h1 := h.an a (List.mem_of_getElem? ha)
  have e := take_nx T.P a.1 a.2.1 a.2.2.1 a.2.2.2 now
  have hrg : ((T.P.take a.1 a.2.1 a.2.2.1 a.2.2.2 now).1.rg.Pairwise (fun x y => x.1 < y.1)) ∧ ∀ m, T.r.last9 < m → m < T.P.nx → ∃ x ∈ (T.P.take a.1 a.2.1 a.2.2.1 a.2.2.2 now).1.rg, x.1 = m := by
    unfold SP.take
    rw [if_pos (by rw [h1.1, h.ss])]
    cases hg : a.2.2.1 with
    | true =>
      rw [if_pos rfl]
      refine ⟨?_, ?_⟩
      · show (T.P.rg.map _).Pairwise _
        rw [List.pairwise_map]
        exact h.inc.imp (fun {x y} hab => by rw [pLate_1, pLate_1]; exact hab)
      · intro m h2 h3
        obtain ⟨x, hx, e⟩ := h.cov m h2 h3
        exact ⟨_, List.mem_map_of_mem hx, by rw [pLate_1]; exact e⟩
    | false =>
      rw [if_neg (by simp)]
      have h4 := h1.2.2 hg
      cases hf : T.P.rg.findIdx? (fun x => decide (x.1 = a.2.1)) with
      | none => exact ⟨h.inc, h.cov⟩
      | some j =>
        dsimp only
        cases hx : T.P.rg[j]? with
        | none => exact ⟨h.inc, h.cov⟩
        | some x =>
          refine ⟨h.inc.sublist (List.eraseIdx_sublist _ _), fun m h5 h6 => ?_⟩
          obtain ⟨y, hy, e2⟩ := h.cov m h5 h6
          refine ⟨y, ?_, e2⟩
          obtain ⟨q, hq⟩ := List.getElem?_of_mem hy
          show y ∈ T.P.rg.eraseIdx j
          rw [List.mem_eraseIdx_iff_getElem?]
          refine ⟨q, ?_, hq⟩
          intro e3
          rw [e3, hx] at hq
          injection hq with hq
          rw [List.findIdx?_eq_some_iff_getElem] at hf
          obtain ⟨hj, h7, _⟩ := hf
          have h8 : T.P.rg[j] = x := by
            rw [List.getElem?_eq_getElem hj] at hx
            injection hx
          rw [h8] at h7
          have h9 : x.1 = a.2.1 := by simpa using h7
          rw [← hq] at e2
          omega
  refine ⟨h.ok.take _ _ _ _ _, h.bat.take _ _ _ _ _, by dsimp only; rw [e.2]; exact h.ss, by dsimp only; rw [take_ev]; exact h.ev, h.wt.take _ _ _ _ _, hrg.1, h.fs, h.d, h.rl, h.fr, by dsimp only; rw [e.1]; exact h.l1, by dsimp only; rw [e.1]; exact hrg.2, by dsimp only; rw [e.1]; exact h.bs, fun x hx => h.an x ((List.eraseIdx_sublist T.ans i).subset hx), ?_⟩
  have := h.cnt
  dsimp only
  rw [List.length_eraseIdx, if_pos hi]
  omega
theorem known_range {r : RS} (hf : ∀ f ∈ r.fs, 0 ≤ f ∧ f ≤ 18446744073709551615) (n : Int) : 0 ≤ r.known n ∧ r.known n ≤ 18446744073709551615 := by
  unfold RS.known
  split
  · omega
  · rw [List.getD_eq_getElem?_getD]
    cases h : r.fs[(n % 16).toNat]? with
    | none => simp
    | some f => exact hf f (List.mem_of_getElem? h)
theorem bits_range (ans : Nat → Bool) (k : Nat) (hk : k ≤ 64) : 0 ≤ bitsUp ans k ∧ bitsUp ans k ≤ 18446744073709551615 := by
  have h := bitsUp_range ans k
  have h2 : (2 : Int) ^ k ≤ 2 ^ 64 := by exact_mod_cast Nat.pow_le_pow_right (by decide : 0 < 2) hk
  have h3 : (2 : Int) ^ 64 = 18446744073709551616 := by decide
  omega
/-- What is told of a batch. -/
structure Tells (r : RS) (b : Int × List Rec) (o : Out) : Prop where
  s : o.s = 9
  ref : 0 ≤ o.ref ∧ o.ref ≤ 18446744073709551615
  cs : (o.gap = true ∧ o.r = r ∧ r.last9 + 1 < b.1) ∨ (o.gap = false ∧ o.n = b.1 ∧ ((b.1 ≤ r.last9 ∧ o.r = r) ∨ (b.1 = r.last9 + 1 ∧ o.r.last9 = b.1 ∧ o.r.fs.length = 16 ∧ (∀ f ∈ o.r.fs, 0 ≤ f ∧ f ≤ 18446744073709551615) ∧ o.r.d = r.d + 1 ∧ 0 ≤ o.r.l ∧ o.r.l ≤ 4611686018427387904)))
theorem TI.tells {T : TK} {k c N : Nat} (h : TI T k c N) {b : Int × List Rec} (hb : batchOk 9 b.1 b.2 = true) (taken : Bool) : Tells T.r b (T.tell b taken) := by
  have hn := (V.bfacts hb).2.1
  have hl := (V.bfacts hb).2.2.2.1
  have hbr := bits_range (fun _ => taken) b.2.length hl
  have hset : ∀ (fs : List Int) (n : Int), fs.length = 16 → (∀ f ∈ fs, 0 ≤ f ∧ f ≤ 18446744073709551615) → (∀ f ∈ fs.set (n % 16).toNat (bitsUp (fun _ => taken) b.2.length), 0 ≤ f ∧ f ≤ 18446744073709551615) := by
    intro fs n _ hf f hm
    rcases List.mem_or_eq_of_mem_set hm with hm | rfl
    · exact hf f hm
    · exact hbr
  unfold TK.tell RS.take
  rw [if_pos hb]
  by_cases hs : (9 : Int) = T.r.s
  · rw [if_pos hs]
    have hla : T.r.last9 = T.r.l := by unfold RS.last9; rw [if_pos hs.symm]
    by_cases h1 : T.r.l + 1 < b.1
    · rw [if_pos h1]
      exact ⟨rfl, by dsimp only; omega, .inl ⟨rfl, rfl, by omega⟩⟩
    · rw [if_neg h1]
      by_cases h2 : b.1 ≤ T.r.l
      · rw [if_pos h2]
        exact ⟨rfl, known_range h.fr _, .inr ⟨rfl, rfl, .inl ⟨by omega, rfl⟩⟩⟩
      · rw [if_neg h2]
        have hf := hset T.r.fs b.1 h.fs h.fr
        refine ⟨rfl, known_range (r := T.r.apply b.1 _) hf _, .inr ⟨rfl, rfl, .inr ⟨by omega, ?_, by simp [RS.apply, h.fs], hf, rfl, by show 0 ≤ b.1; omega, hn.2⟩⟩⟩
        unfold RS.last9
        rw [if_pos (show (T.r.apply b.1 _).s = 9 from hs.symm)]
  · rw [if_neg hs]
    have hla : T.r.last9 = 0 := by unfold RS.last9; rw [if_neg (fun e => hs e.symm)]
    by_cases h1 : b.1 = 1
    · rw [if_pos h1]
      have hf := hset (List.replicate 16 0) b.1 (by simp) (fun f hf => by
        have : f = 0 := by simpa using hf
        omega)
      refine ⟨rfl, known_range (r := (T.r.fresh 9).apply b.1 _) hf _, .inr ⟨rfl, rfl, .inr ⟨by omega, ?_, by simp [RS.apply, RS.fresh], hf, rfl, by show 0 ≤ b.1; omega, hn.2⟩⟩⟩
      unfold RS.last9
      rw [if_pos (show ((T.r.fresh 9).apply b.1 _).s = 9 from rfl)]
    · rw [if_neg h1]
      exact ⟨rfl, by dsimp only; omega, .inl ⟨rfl, rfl, by omega⟩⟩
/-- A batch comes. -/
theorem TI.come {T : TK} {k c N : Nat} (h : TI T k c N) {i : Nat} {b : Int × List Rec} (hb : T.bs[i]? = some b) (taken : Bool) : TI { T with r := (T.tell b taken).r, bs := T.bs.eraseIdx i, ans := T.ans ++ [((T.tell b taken).s, (T.tell b taken).n, (T.tell b taken).gap, (T.tell b taken).ref)] } k c (N + 64) := by
  have hi := (List.getElem?_eq_some_iff.1 hb).1
  have h1 := h.bs b (List.mem_of_getElem? hb)
  have ht := h.tells h1.1 taken
  obtain ⟨o, ho⟩ : ∃ o, T.tell b taken = o := ⟨_, rfl⟩
  rw [ho] at ht ⊢
  have hcnt := h.cnt
  have hlen : (T.bs.eraseIdx i).length = T.bs.length - 1 := by rw [List.length_eraseIdx, if_pos hi]
  have hr : o.r.fs.length = 16 ∧ 0 ≤ o.r.d ∧ o.r.d ≤ T.r.d + 1 ∧ (0 ≤ o.r.l ∧ o.r.l ≤ 4611686018427387904) ∧ (∀ f ∈ o.r.fs, 0 ≤ f ∧ f ≤ 18446744073709551615) ∧ T.r.last9 ≤ o.r.last9 ∧ o.r.last9 < T.P.nx ∧ (o.gap = false → o.n ≤ o.r.last9) := by
    have hd := h.d
    rcases ht.cs with ⟨g1, g2, g3⟩ | ⟨g1, g2, ⟨g3, g4⟩ | ⟨g3, g4, g5, g6, g7, g8⟩⟩
    · rw [g2]
      exact ⟨h.fs, hd, by omega, h.rl, h.fr, Int.le_refl _, h.l1, fun e => by rw [g1] at e; cases e⟩
    · rw [g4]
      exact ⟨h.fs, hd, by omega, h.rl, h.fr, Int.le_refl _, h.l1, fun _ => by omega⟩
    · exact ⟨g5, by omega, by omega, g8, g6, by omega, by rw [g4]; exact h1.2, fun _ => by omega⟩
  refine ⟨h.ok, h.bat, h.ss, h.ev, h.wt, h.inc, hr.1, hr.2.1, hr.2.2.2.1, hr.2.2.2.2.1, hr.2.2.2.2.2.2.1, fun m h2 h3 => h.cov m (by have := hr.2.2.2.2.2.1; dsimp only at h2; omega) h3, fun x hx => h.bs x ((List.eraseIdx_sublist T.bs i).subset hx), ?_, ?_⟩
  · intro a ha
    dsimp only at ha ⊢
    rcases List.mem_append.1 ha with ha | ha
    · have h2 := h.an a ha
      exact ⟨h2.1, h2.2.1, fun e => Int.le_trans (h2.2.2 e) hr.2.2.2.2.2.1⟩
    · rw [List.mem_singleton.1 ha]
      exact ⟨ht.s, ht.ref, hr.2.2.2.2.2.2.2⟩
  · dsimp only
    rw [hlen, List.length_append, List.length_singleton]
    have := hr.2.2.1
    omega
/-- Any step. -/
theorem TI.step {T : TK} {k c N : Nat} (h : TI T k c N) (hk : k ≤ 1000000) (x : StE) (now : Int) : TI (T.step x now) (k + 1) (c + 1) (N + 64) := by
  have hup : ∀ {U : TK}, TI U k c (N + 64) → TI U (k + 1) (c + 1) (N + 64) := fun hu => hu.mono (Nat.le_succ k) (by omega)
  have hup2 : ∀ {U : TK}, TI U k (c + 1) (N + 64) → TI U (k + 1) (c + 1) (N + 64) := fun hu => hu.mono (Nat.le_succ k) (by omega)
  have hid : TI T (k + 1) (c + 1) (N + 64) := h.mono (Nat.le_succ k) (by omega)
  unfold TK.step
  split
  · exact h.add x.r
  · split
    · exact hup2 (h.send hk now)
    · split
      · cases hb : T.bs[x.n.toNat]? with
        | none => exact hid
        | some b =>
          dsimp only
          split
          · exact hup2 (h.dup (List.mem_of_getElem? hb))
          · split
            · exact hup (h.come hb x.taken)
            · exact hup2 (h.lose _)
      · split
        · cases ha : T.ans[x.n.toNat]? with
          | none => exact hid
          | some a =>
            dsimp only
            split
            · exact hup2 (h.adup (List.mem_of_getElem? ha))
            · split
              · exact hup (h.answ ha now)
              · exact hup2 (h.alose _)
        · exact hid
end Go.Proofs.Ytghfoooldcbdnaa
set_option linter.unusedVariables false
set_option linter.unusedSimpArgs false
namespace Go.Proofs.Ytghfoooldcbdnaa
open Go.RowKit Go.Proofs.Ytghfoooldcbdnaa.SL Go.Proofs.YtghfoooldcbdnaaW.PrintWords
abbrev noRec : Rec := ⟨0, .empty, .empty, 0, 0, 0, 0, 0⟩
theorem noRec_q : V.RecQ noRec := ⟨Nat.zero_le _, Nat.zero_le _⟩
abbrev stSend : StE := ⟨1, 0, noRec, false⟩
abbrev stCome : StE := ⟨2, 0, noRec, true⟩
abbrev stAnsw : StE := ⟨5, 0, noRec, false⟩
theorem tk_sendStep (T : TK) (now : Int) : T.step stSend now = { T with P := (T.P.sends now).1, bs := T.bs ++ (T.P.sends now).2 } := by
  unfold TK.step
  rw [if_neg (by decide), if_pos rfl]
theorem tk_comeStep {T : TK} {b : Int × List Rec} {t : List (Int × List Rec)} (h : T.bs = b :: t) (now : Int) : T.step stCome now = { T with r := (T.tell b true).r, bs := t, ans := T.ans ++ [((T.tell b true).s, (T.tell b true).n, (T.tell b true).gap, (T.tell b true).ref)] } := by
  unfold TK.step
  rw [if_neg (by decide), if_neg (by decide), if_pos ⟨by decide, by decide, by decide, by rw [h]; exact Int.ofNat_lt.2 (Nat.succ_pos _)⟩]
  have e : T.bs[stCome.n.toNat]? = some b := by rw [h]; rfl
  have e2 : T.bs.eraseIdx stCome.n.toNat = t := by rw [h]; rfl
  rw [e]
  dsimp only
  rw [if_neg (by decide), if_pos rfl, e2]
theorem tk_answStep {T : TK} {a : An} {t : List An} (h : T.ans = a :: t) (now : Int) : T.step stAnsw now = { T with P := (T.P.take a.1 a.2.1 a.2.2.1 a.2.2.2 now).1, ans := t } := by
  unfold TK.step
  rw [if_neg (by decide), if_neg (by decide), if_neg (fun e => absurd e.2.1 (by decide)), if_pos ⟨by decide, by decide, by decide, by rw [h]; exact Int.ofNat_lt.2 (Nat.succ_pos _)⟩]
  have e : T.ans[stAnsw.n.toNat]? = some a := by rw [h]; rfl
  have e2 : T.ans.eraseIdx stAnsw.n.toNat = t := by rw [h]; rfl
  rw [e]
  dsimp only
  rw [if_neg (by decide), if_pos rfl, e2]
theorem sends_keeps (P : SP) (now : Int) (f : Fl) (h : 1 ≤ (kmk P.kn f).1) : 1 ≤ (kmk (P.sends now).1.kn f).1 := by
  rcases sends_known P now f with e | e <;> omega
theorem take_keeps (P : SP) (as0 an : Int) (ag : Bool) (af now : Int) (f : Fl) (h : 1 ≤ (kmk P.kn f).1) : 1 ≤ (kmk (P.take as0 an ag af now).1.kn f).1 := by
  rcases take_known P as0 an ag af now f with e | ⟨_, i, e⟩
  · omega
  · rw [e]; split <;> omega
theorem tstep_known (T : TK) (x : StE) (now : Int) (f : Fl) (h : 1 ≤ (kmk T.P.kn f).1) : 1 ≤ (kmk (T.step x now).P.kn f).1 := by
  unfold TK.step
  split
  · exact add_known _ _ _ h
  · split
    · exact sends_keeps _ _ _ h
    · split
      · cases T.bs[x.n.toNat]? with
        | none => exact h
        | some b =>
          dsimp only
          split
          · exact h
          · split <;> exact h
      · split
        · cases T.ans[x.n.toNat]? with
          | none => exact h
          | some a =>
            dsimp only
            split
            · exact h
            · split
              · exact take_keeps _ _ _ _ _ _ _ h
              · exact h
        · exact h
theorem add_due {P : SP} {t : Int} (h : P.Due t) (r : Rec) : (P.add r).1.Due t := by
  unfold SP.Due
  rw [(add_rg P r).1]
  exact h
theorem take_due {P : SP} {t : Int} (h : P.Due t) (as0 an : Int) (ag : Bool) (af now : Int) (hn : now ≤ t) : (P.take as0 an ag af now).1.Due t := by
  unfold SP.take
  split
  · split
    · intro x hx
      obtain ⟨y, hy, rfl⟩ := List.mem_map.1 hx
      unfold pLate
      split
      · exact hn
      · exact h y hy
    · cases P.rg.findIdx? (fun x => decide (x.1 = an)) with
      | none => exact h
      | some i =>
        dsimp only
        cases P.rg[i]? with
        | none => exact h
        | some x => exact fun y hy => h y ((List.eraseIdx_sublist _ _).subset hy)
  · exact h
theorem tstep_due {T : TK} {t : Int} (h : T.P.Due t) (x : StE) (now : Int) (h1 : now ≤ t) (h2 : now + T.P.ev ≤ t) : (T.step x now).P.Due t := by
  unfold TK.step
  split
  · exact add_due h _
  · split
    · exact sends_due h h2
    · split
      · cases T.bs[x.n.toNat]? with
        | none => exact h
        | some b =>
          dsimp only
          split
          · exact h
          · split <;> exact h
      · split
        · cases T.ans[x.n.toNat]? with
          | none => exact h
          | some a =>
            dsimp only
            split
            · exact h
            · split
              · exact take_due h _ _ _ _ _ h1
              · exact h
        · exact h
/-- In the script. -/
structure TS (T : TK) (k N : Nat) (a : List Fl) : Prop where
  ti : TI T k k N
  kn : ∀ f ∈ a, 1 ≤ (kmk T.P.kn f).1
  due : T.P.Due 1000
theorem TS.new : TS (TK.new 9 5) 0 0 [] := ⟨TI.new, (by intro f hf; cases hf), (by intro x hx; cases hx)⟩
theorem TS.step {T : TK} {k N : Nat} {a : List Fl} (h : TS T k N a) (hk : k < 200) (x : StE) : TS (T.step x (k : Int)) (k + 1) (N + 64) a :=
  ⟨h.ti.step (by omega) x _, fun f hf => tstep_known T x _ f (h.kn f hf), tstep_due h.due x _ (by omega) (by rw [h.ti.ev]; omega)⟩
theorem TS.added {T : TK} {k N : Nat} {a : List Fl} (h : TS T k N a) (hk : k < 200) {x : StE} (h0 : x.kind = 0) (hr : x.r.ok = true) : TS (T.step x (k : Int)) (k + 1) (N + 64) (a ++ [x.r.fl]) := by
  have h1 := h.step hk x
  refine ⟨h1.ti, fun f hf => ?_, h1.due⟩
  rcases List.mem_append.1 hf with hf | hf
  · exact h1.kn f hf
  · rw [List.mem_singleton.1 hf]
    have e : (T.step x (k : Int)).P = (T.P.add x.r).1 := by
      unfold TK.step
      rw [if_pos h0]
    have hy : (T.P.add x.r).2 = true := by
      unfold SP.add
      rw [if_pos hr]
      cases idxQ T.P.q x.r.fl with
      | some i => rfl
      | none =>
        dsimp only
        rw [if_neg (by have := h.ti.ok.nx; omega)]
    rw [e, add_yes hy]
    decide
/-- Ahead of round i. -/
structure TR (T : TK) (N : Nat) (a : List Fl) (i : Nat) : Prop where
  ti : TI T 200 (200 + i) N
  kn : ∀ f ∈ a, 1 ≤ (kmk T.P.kn f).1
  st : (i = 0 ∧ T.P.Due 1000) ∨ (0 < i ∧ T.P.rg = [] ∧ (T.P.q = [] ∨ T.P.q.length + 16 * (i - 1) ≤ 256))
theorem TS.start {T : TK} {k N : Nat} {a : List Fl} (h : TS T k N a) (hk : k ≤ 200) : TR T N a 0 :=
  ⟨h.ti.mono hk (by omega), h.kn, .inl ⟨rfl, h.due⟩⟩
/-- Within round i: batches on their way. -/
structure TD (T : TK) (N : Nat) (a : List Fl) (i : Nat) : Prop where
  ti : TI T 200 (200 + (i + 1)) N
  kn : ∀ f ∈ a, 1 ≤ (kmk T.P.kn f).1
  q : T.P.q = [] ∨ T.P.q.length + 16 * i ≤ 256
  tl : ∃ pre tl, T.bs = pre ++ tl ∧ tl.Pairwise (fun x y : Int × List Rec => x.1 < y.1) ∧ (∀ m, T.r.last9 < m → m < T.P.nx → ∃ b ∈ tl, b.1 = m) ∧ (∀ x ∈ T.P.rg, (∃ b ∈ tl, b.1 = x.1) ∨ ∃ an ∈ T.ans, an.2.2.1 = false ∧ an.2.1 = x.1)
theorem TR.send {T : TK} {N : Nat} {a : List Fl} {i : Nat} (h : TR T N a i) (hi : i < 100) : TD (T.step stSend (1000 + 10 * (i : Int))) (N + 64) a i := by
  rw [tk_sendStep]
  have hs := h.ti.send (by omega) (1000 + 10 * (i : Int))
  have hnums : (T.P.sends (1000 + 10 * (i : Int))).1.rg.map (·.1) = (T.P.sends (1000 + 10 * (i : Int))).2.map (·.1) := by
    refine sends_nums (by omega) (by omega) ?_
    rcases h.st with ⟨h1, h2⟩ | ⟨_, h2, _⟩
    · intro x hx
      have := h2 x hx
      omega
    · intro x hx
      rw [h2] at hx
      cases hx
  refine ⟨hs, fun f hf => sends_keeps _ _ _ (h.kn f hf), ?_, T.bs, (T.P.sends (1000 + 10 * (i : Int))).2, rfl, ?_, ?_, ?_⟩
  · dsimp only
    rcases h.st with ⟨h2, _⟩ | ⟨h2, h3, h4⟩
    · right
      have h5 := hs.ok.ql
      dsimp only at h5
      omega
    · have hf := sends_fresh (P := T.P) (now := 1000 + 10 * (i : Int)) (by omega) (by omega) h.ti.ok.q h3
      have hr := sends_rest (P := T.P) (1000 + 10 * (i : Int))
      rcases h4 with h4 | h4
      · left
        rw [h4] at hr
        exact List.eq_nil_of_length_eq_zero (by simpa using hr)
      · rcases hf with hf | hf
        · exact .inl hf
        · right
          omega
  · have h1 := hs.inc
    dsimp only at h1
    have h2 : ((T.P.sends (1000 + 10 * (i : Int))).1.rg.map (·.1)).Pairwise (· < ·) := List.pairwise_map.2 h1
    rw [hnums] at h2
    exact List.pairwise_map.1 h2
  · intro m h1 h2
    obtain ⟨x, hx, e⟩ := hs.cov m h1 h2
    have h3 : m ∈ (T.P.sends (1000 + 10 * (i : Int))).1.rg.map (·.1) := List.mem_map.2 ⟨x, hx, e⟩
    rw [hnums] at h3
    exact List.mem_map.1 h3
  · intro x hx
    dsimp only at hx
    have h3 : x.1 ∈ (T.P.sends (1000 + 10 * (i : Int))).1.rg.map (·.1) := List.mem_map.2 ⟨x, hx, rfl⟩
    rw [hnums] at h3
    exact .inl (List.mem_map.1 h3)
theorem TD.come {T : TK} {N : Nat} {a : List Fl} {i : Nat} (h : TD T N a i) (hb : T.bs ≠ []) (now : Int) : TD (T.step stCome now) (N + 64) a i := by
  obtain ⟨b, t, hbt⟩ := List.exists_cons_of_ne_nil hb
  have hti := h.ti.come (i := 0) (b := b) (by rw [hbt]; rfl) true
  rw [show T.bs.eraseIdx 0 = t by rw [hbt]; rfl] at hti
  have hbb := h.ti.bs b (by rw [hbt]; simp)
  have ht := h.ti.tells hbb.1 true
  rw [tk_comeStep hbt]
  obtain ⟨o, ho⟩ : ∃ o, T.tell b true = o := ⟨_, rfl⟩
  rw [ho] at ht hti ⊢
  have hl : T.r.last9 ≤ o.r.last9 := by
    rcases ht.cs with ⟨_, g2, _⟩ | ⟨_, _, ⟨_, g4⟩ | ⟨g3, g4, _⟩⟩
    · rw [g2]; exact Int.le_refl _
    · rw [g4]; exact Int.le_refl _
    · omega
  obtain ⟨pre, tl, h1, h2, h3, h4⟩ := h.tl
  refine ⟨hti, h.kn, h.q, ?_⟩
  dsimp only
  cases pre with
  | cons p pre =>
    rw [hbt] at h1
    injection h1 with h5 h6
    refine ⟨pre, tl, h6, h2, fun m h7 h8 => h3 m (by omega) h8, fun x hx => ?_⟩
    rcases h4 x hx with h7 | ⟨an, h7, h8⟩
    · exact .inl h7
    · exact .inr ⟨an, List.mem_append.2 (.inl h7), h8⟩
  | nil =>
    rw [hbt] at h1
    have h1 : b :: t = tl := h1
    subst h1
    rw [List.pairwise_cons] at h2
    have hle : b.1 ≤ T.r.last9 + 1 := by
      apply Decidable.byContradiction
      intro hc
      obtain ⟨y, hy, e⟩ := h3 (T.r.last9 + 1) (by omega) (by omega)
      rcases List.mem_cons.1 hy with rfl | hy
      · omega
      · have := h2.1 y hy
        omega
    have hg : o.gap = false ∧ o.n = b.1 ∧ b.1 ≤ o.r.last9 := by
      rcases ht.cs with ⟨_, _, g3⟩ | ⟨g1, g2, ⟨g3, g4⟩ | ⟨g3, g4, _⟩⟩
      · omega
      · exact ⟨g1, g2, by rw [g4]; exact g3⟩
      · exact ⟨g1, g2, by omega⟩
    refine ⟨[], t, rfl, h2.2, fun m h7 h8 => ?_, fun x hx => ?_⟩
    · obtain ⟨y, hy, e⟩ := h3 m (by omega) h8
      rcases List.mem_cons.1 hy with rfl | hy
      · omega
      · exact ⟨y, hy, e⟩
    · rcases h4 x hx with ⟨y, hy, e⟩ | ⟨an, h7, h8⟩
      · rcases List.mem_cons.1 hy with rfl | hy
        · exact .inr ⟨_, List.mem_append.2 (.inr (List.mem_singleton.2 rfl)), hg.1, hg.2.1.trans e⟩
        · exact .inl ⟨y, hy, e⟩
      · exact .inr ⟨an, List.mem_append.2 (.inl h7), h8⟩
/-- Within round i: answers on their way. -/
structure TQ (T : TK) (N : Nat) (a : List Fl) (i : Nat) : Prop where
  ti : TI T 200 (200 + (i + 1)) N
  kn : ∀ f ∈ a, 1 ≤ (kmk T.P.kn f).1
  q : T.P.q = [] ∨ T.P.q.length + 16 * i ≤ 256
  an : ∀ x ∈ T.P.rg, ∃ an ∈ T.ans, an.2.2.1 = false ∧ an.2.1 = x.1
theorem TD.done {T : TK} {N : Nat} {a : List Fl} {i : Nat} (h : TD T N a i) (hb : T.bs = []) : TQ T N a i := by
  refine ⟨h.ti, h.kn, h.q, fun x hx => ?_⟩
  obtain ⟨pre, tl, h1, h2, h3, h4⟩ := h.tl
  rw [hb] at h1
  have h5 := (List.append_eq_nil_iff.1 h1.symm).2
  rcases h4 x hx with ⟨y, hy, _⟩ | h6
  · rw [h5] at hy; cases hy
  · exact h6
theorem TQ.answ {T : TK} {N : Nat} {a : List Fl} {i : Nat} (h : TQ T N a i) (ha : T.ans ≠ []) (now : Int) : TQ (T.step stAnsw now) (N + 64) a i := by
  obtain ⟨b, t, hbt⟩ := List.exists_cons_of_ne_nil ha
  have hti := h.ti.answ (i := 0) (a := b) (by rw [hbt]; rfl) now
  rw [show T.ans.eraseIdx 0 = t by rw [hbt]; rfl] at hti
  rw [tk_answStep hbt]
  have hb9 := (h.ti.an b (by rw [hbt]; simp)).1
  refine ⟨hti, fun f hf => take_keeps _ _ _ _ _ _ _ (h.kn f hf), by dsimp only; rw [take_q]; exact h.q, ?_⟩
  dsimp only
  have hin : ∀ x ∈ T.P.rg, (b.2.2.1 = true ∨ x.1 ≠ b.2.1) → ∃ an ∈ t, an.2.2.1 = false ∧ an.2.1 = x.1 := by
    intro x hx hc
    obtain ⟨an, h1, h2, h3⟩ := h.an x hx
    rw [hbt] at h1
    rcases List.mem_cons.1 h1 with rfl | h1
    · rcases hc with hc | hc
      · rw [h2] at hc; cases hc
      · exact absurd h3.symm hc
    · exact ⟨an, h1, h2, h3⟩
  unfold SP.take
  rw [if_pos (by rw [hb9, h.ti.ss])]
  by_cases hg : b.2.2.1 = true
  · rw [if_pos hg]
    intro x hx
    obtain ⟨y, hy, rfl⟩ := List.mem_map.1 hx
    rw [pLate_1]
    exact hin y hy (.inl hg)
  · rw [if_neg hg]
    cases hf : T.P.rg.findIdx? (fun x => decide (x.1 = b.2.1)) with
    | none =>
      intro x hx
      refine hin x hx (.inr (fun e => ?_))
      rw [List.findIdx?_eq_none_iff] at hf
      have := hf x hx
      simp [e] at this
    | some j =>
      dsimp only
      rw [List.findIdx?_eq_some_iff_getElem] at hf
      obtain ⟨hj, h7, _⟩ := hf
      rw [List.getElem?_eq_getElem hj]
      dsimp only
      have h7 : T.P.rg[j].1 = b.2.1 := by simpa using h7
      intro x hx
      refine hin x ((List.eraseIdx_sublist _ _).subset hx) (.inr (fun e => ?_))
      rw [List.mem_eraseIdx_iff_getElem?] at hx
      obtain ⟨q, hq, hx⟩ := hx
      obtain ⟨hq1, hq2⟩ := List.getElem?_eq_some_iff.1 hx
      have hinc := List.pairwise_iff_getElem.1 h.ti.inc
      rcases Nat.lt_or_gt_of_ne hq with g | g
      · have := hinc q j hq1 hj g
        rw [hq2] at this
        omega
      · have := hinc j q hj hq1 g
        rw [hq2] at this
        omega
theorem TQ.done {T : TK} {N : Nat} {a : List Fl} {i : Nat} (h : TQ T N a i) (ha : T.ans = []) : TR T N a (i + 1) := by
  refine ⟨h.ti, h.kn, .inr ⟨by omega, ?_, h.q⟩⟩
  cases hr : T.P.rg with
  | nil => rfl
  | cons x t =>
    obtain ⟨an, h1, _⟩ := h.an x (by rw [hr]; simp)
    rw [ha] at h1
    cases h1
theorem TR.done {T : TK} {N : Nat} {a : List Fl} (h : TR T N a 100) : T.P.q.length = 0 ∧ T.P.rg.length = 0 ∧ ∀ f ∈ a, 2 ≤ (kmk T.P.kn f).1 := by
  rcases h.st with ⟨h1, _⟩ | ⟨_, h2, h3⟩
  · omega
  · have hq : T.P.q = [] := by
      rcases h3 with h3 | h3
      · exact h3
      · omega
    refine ⟨by rw [hq]; rfl, by rw [h2]; rfl, fun f hf => ?_⟩
    have h4 := h.ti.wt.done hq h2 f
    have h5 := h.kn f hf
    omega
end Go.Proofs.Ytghfoooldcbdnaa
set_option linter.unusedVariables false
set_option linter.unusedSimpArgs false
namespace Go.Proofs.Ytghfoooldcbdnaa
open Go.RowKit Go.Proofs.Ytghfoooldcbdnaa.SL Go.Proofs.YtghfoooldcbdnaaW.PrintWords
section
variable {B : Nat} {w0 w : World} {H : List As} {g gr gt : Nat} {T : TK} {N : Nat}
theorem Mod.nilTlk (h : SL.Mod B w0 (snd g (SS.new 9 5) :: cells gr RS.new.cells 127 :: cells gt [.pointer (some ⟨g, 0, none⟩), .pointer (some ⟨gr, 0, none⟩), .slice none 0 0, .slice none 0 0, .slice none 0 0, .slice none 0 0] 90 :: H) w) : SL.Mod B w0 (tlk g gr gt (TK.new 9 5) 0 :: H) w := by
  have h1 : SL.Mod B w0 (qrow (.slice none 0 0) 61 3 0 [] :: _) w := (h.nilRow 61 3).toQ
  have h2 : SL.Mod B w0 (qrow (.slice none 0 0) 42 4 0 [] :: _) w := (h1.nilRow 42 4).toQ
  have h3 := h2.nilRow 51 5
  have h4 := h3.nilRow 4 1
  have h5 := Mod.frzNil h4
  have h6 : SL.Mod B w0 (tlkL g gr gt (SS.new 9 5) (TK.new 9 5).r (.slice none 0 0) (.slice none 0 0) [] (TK.new 9 5).ans none 0 none 0 0 [] [] H) w := by
    have h7 : SL.Mod B w0 (frz [] :: row (.slice none 0 0) 4 1 0 [] :: row (.slice none 0 0) 51 5 0 [] :: qrow (.slice none 0 0) 42 4 0 [] :: qrow (.slice none 0 0) 61 3 0 [] :: snd g (SS.new 9 5) :: cells gr RS.new.cells 127 :: cells gt [.pointer (some ⟨g, 0, none⟩), .pointer (some ⟨gr, 0, none⟩), .slice none 0 0, .slice none 0 0, .slice none 0 0, .slice none 0 0] 90 :: H) w := h5
    have h8 : SL.Mod B w0 (snd g (SS.new 9 5) :: cells gr RS.new.cells 127 :: cells gt [.pointer (some ⟨g, 0, none⟩), .pointer (some ⟨gr, 0, none⟩), .slice none 0 0, .slice none 0 0, .slice none 0 0, .slice none 0 0] 90 :: qrow (.slice none 0 0) 61 3 0 [] :: qrow (.slice none 0 0) 42 4 0 [] :: row (.slice none 0 0) 51 5 0 [] :: row (.slice none 0 0) 4 1 0 [] :: frz [] :: H) w := h7.sub
    exact h8
  exact Mod.closeTlk h6 rfl rfl (Nat.le_refl _) rfl rfl rfl rfl
def lenAt (w : World) (b i : Nat) : Nat := match w.cell? ((⟨b, 0, none⟩ : Addr).add i) with
  | some (.slice _ n _) => n
  | _ => 0
theorem tlk_len (h : SL.Mod B w0 (tlk g gr gt T N :: H) w) : lenAt w gt 2 = T.bs.length ∧ lenAt w gt 3 = T.ans.length := by
  obtain ⟨S, vB, vA, bl, Af, cf, At, ct, n, fl, tk, ⟨h1, h2, h3, h4, h5⟩, HM1⟩ := Mod.openTlk h
  obtain ⟨Ab, cb, rfl, hcb, hlb, -⟩ := (HM1.pick (qrow vB 61 3 bl.length (bts 9 bl))).qSlice
  obtain ⟨Aa, ca, rfl, hca, hla, -⟩ := (HM1.pick (qrow vA 42 4 T.ans.length (anss T.ans))).qSlice
  have hg := HM1.has gt
  constructor
  · unfold lenAt
    rw [cells_at hg 2 _ rfl]
    rw [← h2, List.length_map]
  · unfold lenAt
    rw [cells_at hg 3 _ rfl]
end
set_option maxRecDepth 100000 in
/-- A step of the script. -/
theorem ste_seen {Hh : Type} {enc : TypeId × Value → Hh} {W : World} {cs : List Value} (h : Tr enc Try.prog W 92 cs) : ∃ x : StE, cs = x.cells ∧ V.RecQ x.r := by
  obtain ⟨hl, h⟩ := h.struct Try.underlying92
  have c92 : Try.prog.cellsOf 92 = 11 := by kernel_rfl
  rw [c92] at hl
  match cs, hl with
  | [a0, a1, a2, a3, a4, a5, a6, a7, a8, a9, b0], _ =>
    have h0 : Tr enc Try.prog W 3 [a0] := Tr.field h 0 rfl (n := 1) (by kernel_rfl)
    have h1 : Tr enc Try.prog W 3 [a1] := Tr.field h 1 rfl (n := 1) (by kernel_rfl)
    have h2 : Tr enc Try.prog W 54 [a2, a3, a4, a5, a6, a7, a8, a9] := Tr.field h 2 rfl (n := 8) (by kernel_rfl)
    have h3 : Tr enc Try.prog W 4 [b0] := Tr.field h 3 rfl (n := 1) (by kernel_rfl)
    obtain ⟨x0, e0, _⟩ := h0.int Try.underlying3
    obtain ⟨x1, e1, _⟩ := h1.int Try.underlying3
    obtain ⟨r, e2, hr⟩ := V.rec_seen h2
    obtain ⟨t, e3⟩ := h3.bool Try.underlying4
    simp only [List.cons.injEq, and_true] at e0 e1 e2 e3
    obtain ⟨rfl, rfl, rfl, rfl, rfl, rfl, rfl, rfl⟩ := e2
    subst e0 e1 e3
    exact ⟨⟨x0, x1, r, t⟩, rfl, hr⟩
set_option maxRecDepth 100000 in
theorem talk_seen {Hh : Type} {enc : TypeId × Value → Hh} {W : World} {cs : List Value} (h : Tr enc Try.prog W 85 cs) : ∃ (A : Option Addr) (l : List StE) (c : Nat), cs = [.slice A l.length c] ∧ Reads W A (l.flatMap StE.cells) ∧ (∀ x ∈ l, V.RecQ x.r) ∧ l.length ≤ maxLen := by
  obtain ⟨A, l, c, e1, ht, hq, hl, hm⟩ := h.list (el := StE.cells) (Q := fun x => V.RecQ x.r) (sz := 11) (bytes := 104) Try.underlying85 (by kernel_rfl) ste_len (by kernel_rfl) (fun _ h => ste_seen h)
  exact ⟨A, l, c, e1, ht, hq, hm⟩
theorem ste_load {w : World} {ad : Addr} {l : List StE} (h : Reads w (some ad) (l.flatMap StE.cells)) {j : Nat} {x : StE} (hx : l[j]? = some x) : (Instr.loadAt 92 (.pointer (some (ad.add (j * 11))))).run Try.prog w = .ok (.agg x.cells.toArray) w :=
  load_seg h (j * 11) (flat_seg ste_len l j x hx) (ste_len x)
end Go.Proofs.Ytghfoooldcbdnaa
