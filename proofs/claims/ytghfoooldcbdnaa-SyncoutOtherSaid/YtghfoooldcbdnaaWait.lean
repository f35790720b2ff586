/-
  THE SENDER OF PACKAGE syncout: what waits stands in the queue or in the ring; a round in which all is answered.
-/
import Derived.Test.YtghfoooldcbdnaaBnd1
set_option linter.unusedVariables false
set_option linter.unusedSimpArgs false
namespace Go.Proofs.Ytghfoooldcbdnaa
open Go.RowKit Go.Proofs.Ytghfoooldcbdnaa.SL Go.Proofs.YtghfoooldcbdnaaW.PrintWords
/-- What waits stands in the queue, or in the ring. -/
def SP.Wt (P : SP) : Prop := ∀ f, (kmk P.kn f).1 = 1 → (∃ r ∈ P.q, r.fl = f) ∨ ∃ x ∈ P.rg, x.1 = (kmk P.kn f).2 ∧ ∃ r ∈ x.2.1, r.fl = f
theorem idxQ_some {q : List Rec} {f : Fl} {k : Nat} (h : idxQ q f = some k) : ∃ r, q[k]? = some r ∧ r.fl = f := by
  unfold idxQ at h
  rw [List.findIdx?_eq_some_iff_getElem] at h
  obtain ⟨hk, h1, _⟩ := h
  exact ⟨q[k], List.getElem?_eq_getElem hk, by simpa using h1⟩
theorem idxQ_none {q : List Rec} {f : Fl} (h : idxQ q f = none) : ∀ r ∈ q, r.fl ≠ f := by
  unfold idxQ at h
  rw [List.findIdx?_eq_none_iff] at h
  intro r hr e
  have := h r hr
  simp [e] at this
theorem new_wt (s ev : Int) : (SS.new s ev).p.Wt := by
  intro f h
  simp [SS.new, SS.p, kmk] at h
theorem SP.Wt.add {P : SP} (h : P.Wt) (r : Rec) : (P.add r).1.Wt := by
  unfold SP.add
  split
  · cases hq : idxQ P.q r.fl with
    | some k =>
      dsimp only
      intro f hf
      dsimp only at hf ⊢
      rw [kmk_pt] at hf ⊢
      by_cases e : f = r.fl
      · obtain ⟨x, hx, _⟩ := idxQ_some hq
        have hk := (List.getElem?_eq_some_iff.1 hx).1
        exact .inl ⟨r, List.mem_set hk r, e.symm⟩
      · rw [if_neg e] at hf ⊢
        rcases h f hf with ⟨x, hx, hxf⟩ | h2
        · left
          refine ⟨x, ?_, hxf⟩
          obtain ⟨y, hy, hyf⟩ := idxQ_some hq
          obtain ⟨i, hi⟩ := List.getElem?_of_mem hx
          have : i ≠ k := by
            rintro rfl
            rw [hy] at hi
            injection hi with hi
            subst hi
            exact e (hxf.symm.trans hyf)
          refine List.mem_of_getElem? (i := i) ?_
          rw [List.getElem?_set_ne (Ne.symm this)]
          exact hi
        · exact .inr h2
    | none =>
      dsimp only
      split
      · exact h
      · intro f hf
        dsimp only at hf ⊢
        rw [kmk_pt] at hf ⊢
        by_cases e : f = r.fl
        · exact .inl ⟨r, by simp, e.symm⟩
        · rw [if_neg e] at hf ⊢
          rcases h f hf with ⟨x, hx, hxf⟩ | h2
          · exact .inl ⟨x, by simp [hx], hxf⟩
          · exact .inr h2
  · exact h
theorem SP.Wt.rgMap {P : SP} (h : P.Wt) (g : Int × List Rec × Int → Int × List Rec × Int) (h1 : ∀ x, (g x).1 = x.1) (h2 : ∀ x, (g x).2.1 = x.2.1) : ({ P with rg := P.rg.map g } : SP).Wt := by
  intro f hf
  rcases h f hf with h3 | ⟨x, hx, hn, r, hr, hrf⟩
  · exact .inl h3
  · exact .inr ⟨g x, List.mem_map_of_mem hx, by rw [h1]; exact hn, r, by rw [h2]; exact hr, hrf⟩
/-- What is known of the flows of a batch that is made. -/
theorem fold_kpt (n : Int) : ∀ (l : List Rec) (kn : List (Fl × Int × Int)) (f : Fl), kmk (l.foldl (fun kn r => kpt kn r.fl (1, n)) kn) f = if (∃ r ∈ l, r.fl = f) then (1, n) else kmk kn f
  | [], kn, f => by simp
  | r :: l, kn, f => by
    rw [List.foldl_cons, fold_kpt n l]
    by_cases h : ∃ x ∈ l, x.fl = f
    · rw [if_pos h, if_pos (by obtain ⟨x, hx, e⟩ := h; exact ⟨x, by simp [hx], e⟩)]
    · rw [if_neg h, kmk_pt]
      by_cases e : f = r.fl
      · rw [if_pos e, if_pos ⟨r, by simp, e.symm⟩]
      · rw [if_neg e, if_neg]
        rintro ⟨x, hx, hxf⟩
        rcases List.mem_cons.1 hx with rfl | hx
        · exact e hxf.symm
        · exact h ⟨x, hx, hxf⟩
theorem SP.Wt.step {P : SP} (h : P.Wt) (now : Int) : (P.step now).Wt := by
  intro f hf
  unfold SP.step at hf ⊢
  dsimp only at hf ⊢
  rw [fold_kpt] at hf ⊢
  by_cases hm : ∃ r ∈ P.q.take (Ytghfoooldcbdnaa.room P.q), r.fl = f
  · rw [if_pos hm]
    exact .inr ⟨_, by rw [List.mem_append]; exact .inr (List.mem_singleton.2 rfl), rfl, hm⟩
  · rw [if_neg hm] at hf ⊢
    rcases h f hf with ⟨r, hr, hrf⟩ | ⟨x, hx, h2⟩
    · left
      rw [← List.take_append_drop (Ytghfoooldcbdnaa.room P.q) P.q] at hr
      rcases List.mem_append.1 hr with hr | hr
      · exact absurd ⟨r, hr, hrf⟩ hm
      · exact ⟨r, hr, hrf⟩
    · exact .inr ⟨x, by rw [List.mem_append]; exact .inl hx, h2⟩
theorem SP.Wt.loop (now : Int) : ∀ (f : Nat) (P : SP) (o : List (Int × List Rec)), P.Wt → (loopP now f P o).1.Wt
  | 0, P, o, h => h
  | f + 1, P, o, h => by
    rw [loopP]
    split
    · exact SP.Wt.loop now f _ _ (h.step now)
    · exact h
theorem SP.Wt.sends {P : SP} (h : P.Wt) (now : Int) : (P.sends now).1.Wt := by
  unfold SP.sends
  split
  · exact SP.Wt.loop now _ _ _ (h.rgMap _ (pAgain_1 now P.ev) (pAgain_2 now P.ev))
  · exact h
/-- What an answer leaves of what is known. -/
theorem tk_known (kn : List (Fl × Int × Int)) (an af : Int) (l : List Rec) (f : Fl) : ∀ j, (kmk (tk kn an af l j) f = kmk kn f ∧ (kmk kn f ≠ (1, an) ∨ ∀ r ∈ l.take j, r.fl ≠ f)) ∨ (kmk kn f = (1, an) ∧ ∃ i, (i < j ∧ ∃ r, l[i]? = some r ∧ r.fl = f) ∧ kmk (tk kn an af l j) f = (if bitA af i = true then 3 else 2, an))
  | 0 => by
    left
    exact ⟨rfl, .inr (by simp)⟩
  | j + 1 => by
    have ih := tk_known kn an af l f j
    unfold tk
    cases hr : l[j]? with
    | none =>
      dsimp only
      rcases ih with ⟨h1, h2⟩ | ⟨h1, i, hi, h2⟩
      · left
        refine ⟨h1, h2.imp id (fun h r hm => ?_)⟩
        rw [List.take_add_one, hr] at hm
        exact h r (by simpa using hm)
      · exact .inr ⟨h1, i, ⟨by omega, hi.2⟩, h2⟩
    | some r =>
      dsimp only
      rcases ih with ⟨h1, h2⟩ | ⟨h1, i, hi, h2⟩
      · by_cases hf : f = r.fl
        · subst hf
          by_cases hk : kmk kn r.fl = (1, an)
          · rw [h1, if_pos hk, kmk_pt, if_pos rfl]
            exact .inr ⟨hk, j, ⟨by omega, r, hr, rfl⟩, rfl⟩
          · rw [h1, if_neg hk]
            exact .inl ⟨h1, .inl hk⟩
        · left
          constructor
          · split
            · rw [kmk_pt, if_neg hf]; exact h1
            · exact h1
          · refine h2.imp id (fun h x hm => ?_)
            rw [List.take_add_one, hr] at hm
            rcases List.mem_append.1 hm with hm | hm
            · exact h x hm
            · have : x = r := by simpa using hm
              subst this
              exact fun e => hf e.symm
      · right
        refine ⟨h1, i, ⟨by omega, hi.2⟩, ?_⟩
        split
        · rename_i hc
          rw [kmk_pt]
          by_cases hf : f = r.fl
          · subst hf
            rw [h2] at hc
            exfalso
            have := congrArg Prod.fst hc
            dsimp only at this
            split at this <;> omega
          · rw [if_neg hf]; exact h2
        · exact h2
theorem SP.Wt.take {P : SP} (h : P.Wt) (as0 an : Int) (ag : Bool) (af now : Int) : (P.take as0 an ag af now).1.Wt := by
  unfold SP.take
  split
  · split
    · exact h.rgMap _ (pLate_1 an now) (pLate_2 an now)
    · cases hi : P.rg.findIdx? (fun x => decide (x.1 = an)) with
      | none => exact h
      | some k =>
        dsimp only
        cases hx : P.rg[k]? with
        | none => exact h
        | some x =>
          intro f hf
          dsimp only at hf ⊢
          have hxn : x.1 = an := by
            rw [List.findIdx?_eq_some_iff_getElem] at hi
            obtain ⟨hk, h1, _⟩ := hi
            rw [List.getElem?_eq_getElem hk] at hx
            injection hx with hx
            subst hx
            simpa using h1
          rcases tk_known P.kn an af x.2.1 f x.2.1.length with ⟨h1, h2⟩ | ⟨h1, i, hi, h2⟩
          · rw [h1] at hf ⊢
            rcases h f hf with h3 | ⟨y, hy, hn, r, hr, hrf⟩
            · exact .inl h3
            · right
              refine ⟨y, ?_, hn, r, hr, hrf⟩
              obtain ⟨i, hyi⟩ := List.getElem?_of_mem hy
              rw [List.mem_eraseIdx_iff_getElem?]
              refine ⟨i, ?_, hyi⟩
              intro e
              rw [e, hx] at hyi
              injection hyi with hyi
              subst hyi
              rcases h2 with h2 | h2
              · exact h2 (Prod.ext hf (by rw [← hn, hxn]))
              · exact h2 r (by rw [List.take_length]; exact hr) hrf
          · exfalso
            rw [h2] at hf
            dsimp only at hf
            split at hf <;> omega
  · exact h
/-- What is known of a flow never falls back to nothing. -/
theorem add_known (P : SP) (r : Rec) (f : Fl) (h : 1 ≤ (kmk P.kn f).1) : 1 ≤ (kmk (P.add r).1.kn f).1 := by
  unfold SP.add
  split
  · cases idxQ P.q r.fl with
    | some k =>
      dsimp only
      rw [kmk_pt]
      split
      · omega
      · exact h
    | none =>
      dsimp only
      split
      · exact h
      · dsimp only
        rw [kmk_pt]
        split
        · omega
        · exact h
  · exact h
theorem add_yes {P : SP} {r : Rec} (h : (P.add r).2 = true) : kmk (P.add r).1.kn r.fl = (1, 0) := by
  unfold SP.add at h ⊢
  by_cases hr : r.ok = true
  · rw [if_pos hr] at h ⊢
    cases hq : idxQ P.q r.fl with
    | some k =>
      dsimp only
      rw [kmk_pt, if_pos rfl]
    | none =>
      rw [hq] at h
      dsimp only at h ⊢
      by_cases hl : 256 ≤ P.q.length
      · rw [if_pos hl] at h; cases h
      · rw [if_neg hl]
        dsimp only
        rw [kmk_pt, if_pos rfl]
  · rw [if_neg hr] at h; cases h
theorem step_known (P : SP) (now : Int) (f : Fl) : kmk (P.step now).kn f = kmk P.kn f ∨ kmk (P.step now).kn f = (1, P.nx) := by
  unfold SP.step
  dsimp only
  rw [fold_kpt]
  split
  · exact .inr rfl
  · exact .inl rfl
theorem loop_known (now : Int) (f : Fl) : ∀ (n : Nat) (P : SP) (o : List (Int × List Rec)), (kmk (loopP now n P o).1.kn f).1 = (kmk P.kn f).1 ∨ (kmk (loopP now n P o).1.kn f).1 = 1
  | 0, P, o => .inl rfl
  | n + 1, P, o => by
    rw [loopP]
    split
    · rcases loop_known now f n (P.step now) (o ++ [(P.nx, P.q.take (Ytghfoooldcbdnaa.room P.q))]) with h | h
      · rcases step_known P now f with h2 | h2
        · rw [h, h2]; exact .inl rfl
        · rw [h, h2]; exact .inr rfl
      · exact .inr h
    · exact .inl rfl
theorem sends_known (P : SP) (now : Int) (f : Fl) : (kmk (P.sends now).1.kn f).1 = (kmk P.kn f).1 ∨ (kmk (P.sends now).1.kn f).1 = 1 := by
  unfold SP.sends
  split
  · exact loop_known now f _ _ _
  · exact .inl rfl
theorem take_known (P : SP) (as0 an : Int) (ag : Bool) (af now : Int) (f : Fl) : (kmk (P.take as0 an ag af now).1.kn f).1 = (kmk P.kn f).1 ∨ (kmk P.kn f).1 = 1 ∧ ∃ i, (kmk (P.take as0 an ag af now).1.kn f).1 = if bitA af i = true then 3 else 2 := by
  unfold SP.take
  split
  · split
    · exact .inl rfl
    · cases hi : P.rg.findIdx? (fun x => decide (x.1 = an)) with
      | none => exact .inl rfl
      | some k =>
        dsimp only
        cases hx : P.rg[k]? with
        | none => exact .inl rfl
        | some x =>
          dsimp only
          rcases tk_known P.kn an af x.2.1 f x.2.1.length with ⟨h1, _⟩ | ⟨h1, i, hi, h2⟩
          · exact .inl (by rw [h1])
          · exact .inr ⟨by rw [h1], i, by rw [h2]⟩
  · exact .inl rfl
/-- Nothing waits where nothing is queued, nor on its way. -/
theorem SP.Wt.done {P : SP} (h : P.Wt) (hq : P.q = []) (hr : P.rg = []) (f : Fl) : (kmk P.kn f).1 ≠ 1 := by
  intro hf
  rcases h f hf with ⟨r, hr2, _⟩ | ⟨x, hx, _⟩
  · rw [hq] at hr2; cases hr2
  · rw [hr] at hx; cases hx

/-! ### A round -/
/-- Sending goes on till the queue is empty, or there is no room. -/
theorem loop_end (now : Int) : ∀ (f : Nat) (P : SP) (o : List (Int × List Rec)), (∀ r ∈ P.q, r.ok = true) → P.q.length ≤ f → (loopP now f P o).1.q = [] ∨ (loopP now f P o).1.room = false
  | 0, P, o, hq, hl => .inl (List.eq_nil_of_length_eq_zero (by show P.q.length = 0; omega))
  | f + 1, P, o, hq, hl => by
    rw [loopP]
    split
    · rename_i hc
      have hpos : 0 < P.q.length := by
        cases h0 : P.q with
        | nil => rw [h0] at hc; simp at hc
        | cons _ _ => simp
      have := rm_pos hq hpos
      refine loop_end now f (P.step now) _ (fun r hr => hq r (List.mem_of_mem_drop hr)) ?_
      show (P.q.drop (Ytghfoooldcbdnaa.room P.q)).length ≤ f
      rw [List.length_drop]
      omega
    · rename_i hc
      by_cases h1 : P.q.isEmpty = false
      · right
        cases hr : P.room with
        | false => rfl
        | true => exact absurd ⟨h1, hr⟩ hc
      · left
        simpa using h1
/-- What is on its way is what was handed out. -/
theorem loop_nums (now : Int) : ∀ (f : Nat) (P : SP) (o : List (Int × List Rec)), P.rg.map (·.1) = o.map (·.1) → (loopP now f P o).1.rg.map (·.1) = (loopP now f P o).2.map (·.1)
  | 0, P, o, h => h
  | f + 1, P, o, h => by
    rw [loopP]
    split
    · refine loop_nums now f _ _ ?_
      show (P.rg ++ [(P.nx, P.q.take (Ytghfoooldcbdnaa.room P.q), now + P.ev)]).map (·.1) = _
      rw [List.map_append, List.map_append, h]
      rfl
    · exact h
/-- Each batch is due at such a time. -/
def SP.Due (P : SP) (t : Int) : Prop := ∀ x ∈ P.rg, x.2.2 ≤ t
theorem sends_nums {P : SP} {now : Int} (h0 : 0 ≤ now) (h1 : now ≤ 1099511627776) (hd : P.Due now) : (P.sends now).1.rg.map (·.1) = (P.sends now).2.map (·.1) := by
  unfold SP.sends
  rw [if_pos ⟨h0, h1⟩]
  refine loop_nums now _ _ _ ?_
  have e : P.rg.filter (fun x => decide (x.2.2 ≤ now)) = P.rg := List.filter_eq_self.2 (fun x hx => by simpa using hd x hx)
  rw [e]
  simp only [List.map_map]
  exact List.map_congr_left (fun x _ => pAgain_1 now P.ev x)
/-- From an empty ring on. -/
structure Fresh (P : SP) (n0 : Int) (q0 : Nat) : Prop where
  rg : P.rg = [] ∧ P.nx = n0 ∨ ∃ x, P.rg[0]? = some x ∧ x.1 = n0 ∧ (P.rg.length : Int) = P.nx - n0
  q : (P.q.length : Int) + (P.nx - n0) ≤ q0
  ok : ∀ r ∈ P.q, r.ok = true
theorem Fresh.loop {n0 : Int} {q0 : Nat} (now : Int) : ∀ (f : Nat) (P : SP) (o : List (Int × List Rec)), Fresh P n0 q0 → Fresh (loopP now f P o).1 n0 q0
  | 0, P, o, h => h
  | f + 1, P, o, h => by
    rw [loopP]
    split
    · rename_i hc
      have hpos : 0 < P.q.length := by
        cases h0 : P.q with
        | nil => rw [h0] at hc; simp at hc
        | cons _ _ => simp
      have hp := rm_pos h.ok hpos
      refine Fresh.loop now f (P.step now) _ ⟨?_, ?_, fun r hr => h.ok r (List.mem_of_mem_drop hr)⟩
      · right
        rcases h.rg with ⟨h1, h2⟩ | ⟨x, h1, h2, h3⟩
        · refine ⟨(P.nx, P.q.take (Ytghfoooldcbdnaa.room P.q), now + P.ev), ?_, h2, ?_⟩
          · show (P.rg ++ [_])[0]? = some _
            rw [h1]; rfl
          · show ((P.rg ++ [_]).length : Int) = P.nx + 1 - n0
            rw [h1]; simp; omega
        · refine ⟨x, ?_, h2, ?_⟩
          · show (P.rg ++ [_])[0]? = some _
            rw [List.getElem?_append_left (List.getElem?_eq_some_iff.1 h1).1]; exact h1
          · show ((P.rg ++ [_]).length : Int) = P.nx + 1 - n0
            rw [List.length_append, List.length_singleton]; omega
      · show ((P.q.drop (Ytghfoooldcbdnaa.room P.q)).length : Int) + (P.nx + 1 - n0) ≤ q0
        rw [List.length_drop]
        have := h.q
        omega
    · exact h
/-- Where nothing is on its way, Send empties the queue or takes sixteen records at least from it. -/
theorem sends_fresh {P : SP} {now : Int} (h0 : 0 ≤ now) (h1 : now ≤ 1099511627776) (hq : ∀ r ∈ P.q, r.ok = true) (hr : P.rg = []) : (P.sends now).1.q = [] ∨ (P.sends now).1.q.length + 16 ≤ P.q.length := by
  have hs : P.sends now = loopP now P.q.length P [] := by
    obtain ⟨s, ev, nx, q, rg, kn⟩ := P
    dsimp only at hr
    subst hr
    unfold SP.sends
    rw [if_pos ⟨h0, h1⟩]
    rfl
  rw [hs]
  have h2 := Fresh.loop (n0 := P.nx) (q0 := P.q.length) now P.q.length P [] ⟨.inl ⟨hr, rfl⟩, by omega, hq⟩
  rcases loop_end now P.q.length P [] hq (Nat.le_refl _) with h3 | h3
  · exact .inl h3
  · right
    have hql := h2.q
    have hx : 16 ≤ (loopP now P.q.length P []).1.nx - P.nx := by
      rcases h2.rg with ⟨h4, _⟩ | ⟨x, h4, h5, h6⟩
      · unfold SP.room at h3
        rw [h4] at h3
        simp at h3
      · unfold SP.room at h3
        rw [h4] at h3
        simp at h3
        omega
    omega
theorem sends_rest {P : SP} (now : Int) : (P.sends now).1.q.length ≤ P.q.length := by
  have hl : ∀ (f : Nat) (P : SP) (o : List (Int × List Rec)), (loopP now f P o).1.q.length ≤ P.q.length := by
    intro f
    induction f with
    | zero => intro P o; exact Nat.le_refl _
    | succ f ih =>
      intro P o
      rw [loopP]
      split
      · refine Nat.le_trans (ih _ _) ?_
        show (P.q.drop (Ytghfoooldcbdnaa.room P.q)).length ≤ _
        rw [List.length_drop]
        omega
      · exact Nat.le_refl _
  unfold SP.sends
  split
  · exact hl _ _ _
  · exact Nat.le_refl _
theorem take_q (P : SP) (as0 an : Int) (ag : Bool) (af now : Int) : (P.take as0 an ag af now).1.q = P.q := by
  unfold SP.take
  split
  · split
    · rfl
    · cases P.rg.findIdx? (fun x => decide (x.1 = an)) with
      | none => rfl
      | some i =>
        dsimp only
        cases P.rg[i]? with
        | none => rfl
        | some x => rfl
  · rfl
/-- The oldest batch is answered. -/
theorem take_head {P : SP} {x : Int × List Rec × Int} {t : List (Int × List Rec × Int)} (h : P.rg = x :: t) (af now : Int) : (P.take P.s x.1 false af now).2 = true ∧ (P.take P.s x.1 false af now).1.rg = t := by
  unfold SP.take
  rw [if_pos rfl, if_neg (by simp)]
  have e : P.rg.findIdx? (fun y => decide (y.1 = x.1)) = some 0 := by rw [h]; simp [List.findIdx?_cons]
  rw [e]
  dsimp only
  rw [show P.rg[0]? = some x from by rw [h]; rfl]
  exact ⟨rfl, by rw [h]; rfl⟩
end Go.Proofs.Ytghfoooldcbdnaa
