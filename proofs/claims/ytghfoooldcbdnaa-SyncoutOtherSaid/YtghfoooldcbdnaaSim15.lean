/-
  THE DOCUMENT's SENDER (outriderref15), without where it lies; and that the program's does as it does.
-/
import Derived.Test.YtghfoooldcbdnaaWait
set_option linter.unusedVariables false
set_option linter.unusedSimpArgs false
namespace Go.Proofs.Ytghfoooldcbdnaa
open Go.RowKit Go.Proofs.Ytghfoooldcbdnaa.SL Go.Proofs.YtghfoooldcbdnaaW.PrintWords
/-- The document's sender. -/
structure RP where
  (s ev nx : Int)
  q : List Rec
  rg : List (Int × List Rec × Int)
  td : List (Int × List Rec × Int)
def RP.new (s ev : Int) : RP := ⟨s, ev, 1, [], [], []⟩
def RP.add (R : RP) (r : Rec) : RP × Bool :=
  if r.ok = true then match idxQ R.q r.fl with
    | some k => ({ R with q := R.q.set k r }, true)
    | none => if 256 ≤ R.q.length then (R, false) else ({ R with q := R.q ++ [r] }, true)
  else (R, false)
def RP.room (R : RP) : Bool := match R.rg[0]? with
  | none => true
  | some x => decide (R.nx < x.1 + 16)
def RP.step (now : Int) (R : RP) : RP :=
  { R with q := R.q.drop (Ytghfoooldcbdnaa.room R.q), nx := R.nx + 1, rg := R.rg ++ [(R.nx, R.q.take (Ytghfoooldcbdnaa.room R.q), now + R.ev)] }
def loopR (now : Int) : Nat → RP → List (Int × List Rec) → RP × List (Int × List Rec)
  | 0, R, o => (R, o)
  | f + 1, R, o => if (R.q.isEmpty = false ∧ R.room = true) then loopR now f (R.step now) (o ++ [(R.nx, R.q.take (Ytghfoooldcbdnaa.room R.q))]) else (R, o)
def RP.sends (R : RP) (now : Int) : RP × List (Int × List Rec) :=
  if 0 ≤ now ∧ now ≤ 1099511627776 then loopR now R.q.length { R with rg := R.rg.map (pAgain now R.ev) } ((R.rg.filter (fun x => decide (x.2.2 ≤ now))).map (fun x => (x.1, x.2.1))) else (R, [])
def RP.take (R : RP) (as0 an : Int) (ag : Bool) (af now : Int) : RP × Bool :=
  if as0 = R.s then
    if ag = true then ({ R with rg := R.rg.map (pLate an now) }, true)
    else ({ R with rg := R.rg.filter (fun x => !decide (x.1 = an)), td := R.td ++ (R.rg.filter (fun x => decide (x.1 = an))).map (fun x => (x.1, x.2.1, af)) }, R.rg.any (fun x => decide (x.1 = an)))
  else (R, false)
/-- What a batch on its way says of a flow. -/
def pk (f : Fl) (acc : Int × Int) (x : Int × List Rec × Int) : Int × Int := match idxQ x.2.1 f with
  | some _ => if acc.1 < x.1 then (x.1, 1) else acc
  | none => acc
/-- What a batch that was answered says of a flow. -/
def pt (f : Fl) (acc : Int × Int) (x : Int × List Rec × Int) : Int × Int := match idxQ x.2.1 f with
  | some i => if acc.1 < x.1 then (x.1, if bitA x.2.2 i = true then 3 else 2) else acc
  | none => acc
def RP.known (R : RP) (f : Fl) : Int := match idxQ R.q f with
  | some _ => 1
  | none => (R.td.foldl (pt f) (R.rg.foldl (pk f) (0, 0))).2

/-! ### What is said of a flow, as pairs -/
/-- The one of the two that is the later. -/
def pick2 (a b : Int × Int) : Int × Int := if a.1 < b.1 then b else a
def candR (f : Fl) (l : List (Int × List Rec × Int)) : List (Int × Int) := l.filterMap (fun x => (idxQ x.2.1 f).map (fun _ => (x.1, 1)))
def candT (f : Fl) (l : List (Int × List Rec × Int)) : List (Int × Int) := l.filterMap (fun x => (idxQ x.2.1 f).map (fun i => (x.1, if bitA x.2.2 i = true then 3 else 2)))
theorem pk_fold (f : Fl) : ∀ (l : List (Int × List Rec × Int)) (a : Int × Int), l.foldl (pk f) a = (candR f l).foldl pick2 a
  | [], a => rfl
  | x :: l, a => by
    rw [List.foldl_cons, pk_fold f l]
    unfold candR pk
    rw [List.filterMap_cons]
    cases idxQ x.2.1 f with
    | none => rfl
    | some i => rfl
theorem pt_fold (f : Fl) : ∀ (l : List (Int × List Rec × Int)) (a : Int × Int), l.foldl (pt f) a = (candT f l).foldl pick2 a
  | [], a => rfl
  | x :: l, a => by
    rw [List.foldl_cons, pt_fold f l]
    unfold candT pt
    rw [List.filterMap_cons]
    cases idxQ x.2.1 f with
    | none => rfl
    | some i => rfl
theorem pick_best {p : Int × Int} : ∀ (l : List (Int × Int)) (a : Int × Int), (p ∈ l ∨ a = p) → (∀ m ∈ l, m ≠ p → m.1 < p.1) → (a ≠ p → a.1 < p.1) → l.foldl pick2 a = p
  | [], a, h1, _, _ => by
    rcases h1 with h1 | h1
    · cases h1
    · exact h1
  | x :: l, a, h1, h2, h3 => by
    rw [List.foldl_cons]
    have hl : ∀ m ∈ l, m ≠ p → m.1 < p.1 := fun m hm => h2 m (by simp [hm])
    by_cases hx : x = p
    · subst hx
      by_cases ha : a = x
      · subst ha
        exact pick_best l _ (.inr (by simp [pick2])) hl (fun h => absurd (by simp [pick2]) h)
      · have := h3 ha
        exact pick_best l _ (.inr (by simp [pick2, this])) hl (fun h => absurd (by simp [pick2, this]) h)
    · have hxl := h2 x (by simp) hx
      have hmem : p ∈ l ∨ a = p := by
        rcases h1 with h1 | h1
        · rcases List.mem_cons.1 h1 with h1 | h1
          · exact absurd h1.symm hx
          · exact .inl h1
        · exact .inr h1
      by_cases ha : a = p
      · subst ha
        have e : pick2 a x = a := by unfold pick2; rw [if_neg (by omega)]
        rw [e]
        exact pick_best l _ (.inr rfl) hl (fun h => absurd rfl h)
      · have hal := h3 ha
        refine pick_best l _ ?_ hl ?_
        · rcases hmem with hm | hm
          · exact .inl hm
          · exact absurd hm ha
        · intro _
          unfold pick2
          split <;> assumption
/-- A batch that says so of a flow. -/
def RP.Says (R : RP) (f : Fl) (p : Int × Int) : Prop := p ∈ candR f R.rg ∨ p ∈ candT f R.td
theorem mem_candR {f : Fl} {l : List (Int × List Rec × Int)} {p : Int × Int} : p ∈ candR f l ↔ ∃ x ∈ l, (∃ i, idxQ x.2.1 f = some i) ∧ p = (x.1, 1) := by
  unfold candR
  rw [List.mem_filterMap]
  constructor
  · rintro ⟨x, hx, h⟩
    obtain ⟨i, hi, rfl⟩ := Option.map_eq_some_iff.1 h
    exact ⟨x, hx, ⟨i, hi⟩, rfl⟩
  · rintro ⟨x, hx, ⟨i, hi⟩, rfl⟩
    exact ⟨x, hx, by rw [hi]; rfl⟩
theorem mem_candT {f : Fl} {l : List (Int × List Rec × Int)} {p : Int × Int} : p ∈ candT f l ↔ ∃ x ∈ l, ∃ i, idxQ x.2.1 f = some i ∧ p = (x.1, if bitA x.2.2 i = true then 3 else 2) := by
  unfold candT
  rw [List.mem_filterMap]
  constructor
  · rintro ⟨x, hx, h⟩
    obtain ⟨i, hi, rfl⟩ := Option.map_eq_some_iff.1 h
    exact ⟨x, hx, i, hi, rfl⟩
  · rintro ⟨x, hx, i, hi, rfl⟩
    exact ⟨x, hx, by rw [hi]; rfl⟩
/-- The mark of a flow is what the document's sender says. -/
def Mark (R : RP) (f : Fl) (st n : Int) : Prop :=
  ((∃ r ∈ R.q, r.fl = f) → (st, n) = (1, 0)) ∧
  ((∀ r ∈ R.q, r.fl ≠ f) → ((∀ p, ¬ R.Says f p) ∧ (st, n) = (0, 0)) ∨ (R.Says f (n, st) ∧ 1 ≤ n ∧ ∀ p, R.Says f p → p ≠ (n, st) → p.1 < n))
theorem Mark.known {R : RP} {f : Fl} {st n : Int} (h : Mark R f st n) : R.known f = st := by
  unfold RP.known
  cases hq : idxQ R.q f with
  | some i =>
    obtain ⟨r, hr, hf⟩ := idxQ_some hq
    have := h.1 ⟨r, List.mem_of_getElem? hr, hf⟩
    exact (congrArg Prod.fst this).symm
  | none =>
    dsimp only
    rw [pk_fold, pt_fold, ← List.foldl_append]
    rcases h.2 (idxQ_none hq) with ⟨h1, h2⟩ | ⟨h1, h2, h3⟩
    · have e : candR f R.rg ++ candT f R.td = [] := by
        rw [List.eq_nil_iff_forall_not_mem]
        intro p hp
        exact h1 p (List.mem_append.1 hp)
      rw [e]
      exact (congrArg Prod.fst h2).symm
    · have e := pick_best (p := (n, st)) (candR f R.rg ++ candT f R.td) (0, 0) (.inl (List.mem_append.2 h1)) (fun m hm hne => h3 m (List.mem_append.1 hm) hne) (fun _ => by show (0 : Int) < n; omega)
      rw [e]

/-! ### The two alike -/
structure Sm (P : SP) (R : RP) : Prop where
  s : R.s = P.s
  ev : R.ev = P.ev
  nx : R.nx = P.nx
  q : R.q = P.q
  rg : R.rg = P.rg
  inc : P.rg.Pairwise (fun x y => x.1 < y.1)
  nx1 : 1 ≤ P.nx
  rb : ∀ x ∈ P.rg, 1 ≤ x.1 ∧ x.1 < P.nx
  tb : ∀ t ∈ R.td, 1 ≤ t.1 ∧ t.1 < P.nx
  tn : ∀ t ∈ R.td, ∀ u ∈ R.td, t.1 = u.1 → t = u
  rt : ∀ x ∈ P.rg, ∀ t ∈ R.td, x.1 ≠ t.1
  qn : (P.q.map Rec.fl).Nodup
  xn : ∀ x ∈ P.rg, (x.2.1.map Rec.fl).Nodup
  marks : ∀ f, Mark R f (kmk P.kn f).1 (kmk P.kn f).2
theorem Sm.known {P : SP} {R : RP} (h : Sm P R) (f : Fl) : R.known f = (kmk P.kn f).1 := (h.marks f).known
theorem Sm.new (s ev : Int) : Sm (SS.new s ev).p (RP.new s ev) := by
  refine ⟨rfl, rfl, rfl, rfl, rfl, List.Pairwise.nil, by show (1 : Int) ≤ 1; omega, ?_, ?_, ?_, ?_, List.nodup_nil, ?_, ?_⟩
  · intro x hx; simp [SS.new, SS.p] at hx
  · intro x hx; simp [RP.new] at hx
  · intro x hx; simp [RP.new] at hx
  · intro x hx; simp [SS.new, SS.p] at hx
  · intro x hx; simp [SS.new, SS.p] at hx
  · intro f
    refine ⟨fun ⟨r, hr, _⟩ => by simp [RP.new] at hr, fun _ => .inl ⟨fun p hp => ?_, rfl⟩⟩
    rcases hp with hp | hp
    · simp [RP.new, candR] at hp
    · simp [RP.new, candT] at hp
theorem pw_le {n : Int} : ∀ {l : List (Int × List Rec × Int)} {x : Int × List Rec × Int}, (x :: l).Pairwise (fun x y => x.1 < y.1) → (∀ y ∈ x :: l, y.1 < n) → ((x :: l).length : Int) ≤ n - x.1
  | [], x, _, hb => by have := hb x (by simp); simp; omega
  | y :: l, x, hp, hb => by
    have h1 := pw_le (n := n) (List.Pairwise.of_cons hp) (fun z hz => hb z (by simp [hz]))
    have h2 := List.rel_of_pairwise_cons hp (List.mem_cons_self (a := y) (l := l))
    simp only [List.length_cons] at h1 ⊢
    omega
theorem Sm.room {P : SP} {R : RP} (h : Sm P R) : R.room = P.room := by
  unfold RP.room SP.room
  rw [h.rg, h.nx]
  cases hr : P.rg with
  | nil => rfl
  | cons x l =>
    have h1 := pw_le (n := P.nx) (x := x) (l := l) (by rw [← hr]; exact h.inc) (fun y hy => (h.rb y (by rw [hr]; exact hy)).2)
    show decide (P.nx < x.1 + 16) = (decide ((x :: l).length < 16) && decide (P.nx - x.1 < 16))
    by_cases hc : P.nx < x.1 + 16
    · rw [decide_eq_true hc, decide_eq_true (show (x :: l).length < 16 by omega), decide_eq_true (show P.nx - x.1 < 16 by omega)]
      rfl
    · rw [decide_eq_false hc, decide_eq_false (show ¬ (P.nx - x.1 < 16) by omega), Bool.and_false]
/-- The marks hang on what is queued, and on what the batches say. -/
theorem Mark.mono {R R' : RP} {f : Fl} {st n : Int} (h : Mark R f st n) (hq : (∃ r ∈ R'.q, r.fl = f) ↔ (∃ r ∈ R.q, r.fl = f)) (hs : ∀ p, R'.Says f p ↔ R.Says f p) : Mark R' f st n := by
  refine ⟨fun h1 => h.1 (hq.1 h1), fun h1 => ?_⟩
  rcases h.2 (fun r hr e => by
    obtain ⟨r', hr', e'⟩ := hq.2 ⟨r, hr, e⟩
    exact h1 r' hr' e') with ⟨h2, h3⟩ | ⟨h2, h3, h4⟩
  · exact .inl ⟨fun p hp => h2 p ((hs p).1 hp), h3⟩
  · exact .inr ⟨(hs _).2 h2, h3, fun p hp => h4 p ((hs p).1 hp)⟩
theorem says_map {R : RP} {g : Int × List Rec × Int → Int × List Rec × Int} (h1 : ∀ x, (g x).1 = x.1) (h2 : ∀ x, (g x).2.1 = x.2.1) (f : Fl) (p : Int × Int) : ({ R with rg := R.rg.map g } : RP).Says f p ↔ R.Says f p := by
  have e : candR f (R.rg.map g) = candR f R.rg := by
    unfold candR
    rw [List.filterMap_map]
    congr 1
    funext x
    simp [h1, h2]
  unfold RP.Says
  dsimp only
  rw [e]
theorem Sm.rgMap {P : SP} {R : RP} (h : Sm P R) (g : Int × List Rec × Int → Int × List Rec × Int) (h1 : ∀ x, (g x).1 = x.1) (h2 : ∀ x, (g x).2.1 = x.2.1) : Sm { P with rg := P.rg.map g } { R with rg := R.rg.map g } := by
  refine ⟨h.s, h.ev, h.nx, h.q, by show R.rg.map g = P.rg.map g; rw [h.rg], ?_, h.nx1, ?_, h.tb, h.tn, ?_, h.qn, ?_, ?_⟩
  · show (P.rg.map g).Pairwise _
    rw [List.pairwise_map]
    exact h.inc.imp (fun {a b} hab => by rw [h1, h1]; exact hab)
  · intro x hx
    obtain ⟨y, hy, rfl⟩ := List.mem_map.1 hx
    rw [h1]; exact h.rb y hy
  · intro x hx
    obtain ⟨y, hy, rfl⟩ := List.mem_map.1 hx
    rw [h1]; exact h.rt y hy
  · intro x hx
    obtain ⟨y, hy, rfl⟩ := List.mem_map.1 hx
    rw [h2]; exact h.xn y hy
  · intro f
    exact (h.marks f).mono Iff.rfl (says_map h1 h2 f)
theorem nodup_set {q : List Rec} {k : Nat} {r x : Rec} (hk : q[k]? = some x) (he : x.fl = r.fl) : (q.set k r).map Rec.fl = q.map Rec.fl := by
  apply List.ext_getElem?
  intro i
  rw [List.getElem?_map, List.getElem?_map, List.getElem?_set]
  have hl := (List.getElem?_eq_some_iff.1 hk).1
  by_cases h : k = i
  · subst h
    rw [if_pos rfl, if_pos hl, hk]
    simp [he]
  · rw [if_neg h]
theorem mem_fl {q : List Rec} {f : Fl} : (∃ r ∈ q, r.fl = f) ↔ f ∈ q.map Rec.fl := by rw [List.mem_map]
theorem Sm.add {P : SP} {R : RP} (h : Sm P R) (r : Rec) : Sm (P.add r).1 (R.add r).1 ∧ (R.add r).2 = (P.add r).2 := by
  unfold SP.add RP.add
  rw [h.q]
  split
  · cases hi : idxQ P.q r.fl with
    | some k =>
      dsimp only
      obtain ⟨x, hx, hxf⟩ := idxQ_some hi
      have hm := nodup_set hx hxf
      refine ⟨⟨h.s, h.ev, h.nx, rfl, h.rg, h.inc, h.nx1, h.rb, h.tb, h.tn, h.rt, by show ((P.q.set k r).map Rec.fl).Nodup; rw [hm]; exact h.qn, h.xn, fun f => ?_⟩, rfl⟩
      dsimp only
      rw [kmk_pt]
      by_cases e : f = r.fl
      · rw [if_pos e]
        refine ⟨fun _ => rfl, fun h1 => ?_⟩
        exfalso
        exact h1 r (List.mem_set (List.getElem?_eq_some_iff.1 hx).1 r) e.symm
      · rw [if_neg e]
        refine (h.marks f).mono ?_ (fun p => Iff.rfl)
        show (∃ y ∈ P.q.set k r, y.fl = f) ↔ (∃ y ∈ R.q, y.fl = f)
        rw [h.q, mem_fl, mem_fl, hm]
    | none =>
      dsimp only
      split
      · exact ⟨h, rfl⟩
      · have hno := idxQ_none hi
        refine ⟨⟨h.s, h.ev, h.nx, rfl, h.rg, h.inc, h.nx1, h.rb, h.tb, h.tn, h.rt, ?_, h.xn, fun f => ?_⟩, rfl⟩
        · show ((P.q ++ [r]).map Rec.fl).Nodup
          rw [List.map_append, List.nodup_append]
          refine ⟨h.qn, by simp, ?_⟩
          intro a ha b hb e
          obtain ⟨y, hy, rfl⟩ := List.mem_map.1 ha
          have : b = r.fl := by simpa using hb
          exact hno y hy (e.trans this)
        · dsimp only
          rw [kmk_pt]
          by_cases e : f = r.fl
          · rw [if_pos e]
            exact ⟨fun _ => rfl, fun h1 => absurd e.symm (h1 r (by simp))⟩
          · rw [if_neg e]
            refine (h.marks f).mono ?_ (fun p => Iff.rfl)
            show (∃ y ∈ P.q ++ [r], y.fl = f) ↔ (∃ y ∈ R.q, y.fl = f)
            rw [h.q]
            constructor
            · rintro ⟨y, hy, hyf⟩
              rcases List.mem_append.1 hy with hy | hy
              · exact ⟨y, hy, hyf⟩
              · have : y = r := by simpa using hy
                subst this
                exact absurd hyf.symm e
            · rintro ⟨y, hy, hyf⟩
              exact ⟨y, by simp [hy], hyf⟩
  · exact ⟨h, rfl⟩
theorem idxQ_of_mem {q : List Rec} {f : Fl} (h : ∃ r ∈ q, r.fl = f) : ∃ i, idxQ q f = some i := by
  cases hi : idxQ q f with
  | some i => exact ⟨i, rfl⟩
  | none =>
    obtain ⟨r, hr, e⟩ := h
    exact absurd e (idxQ_none hi r hr)
theorem idxQ_nodup {q : List Rec} {f : Fl} {i : Nat} {r : Rec} (hn : (q.map Rec.fl).Nodup) (hr : q[i]? = some r) (he : r.fl = f) : idxQ q f = some i := by
  obtain ⟨j, hj⟩ := idxQ_of_mem ⟨r, List.mem_of_getElem? hr, he⟩
  obtain ⟨x, hx, hxf⟩ := idxQ_some hj
  rw [hj]
  have h1 : (q.map Rec.fl)[i]? = some f := by rw [List.getElem?_map, hr]; simp [he]
  have h2 : (q.map Rec.fl)[j]? = some f := by rw [List.getElem?_map, hx]; simp [hxf]
  obtain ⟨hi1, hi2⟩ := List.getElem?_eq_some_iff.1 h1
  obtain ⟨hj1, hj2⟩ := List.getElem?_eq_some_iff.1 h2
  have e : j = i := by
    rcases Nat.lt_trichotomy i j with hlt | heq | hlt
    · exact absurd (hi2.trans hj2.symm) ((List.pairwise_iff_getElem.1 hn) i j hi1 hj1 hlt)
    · exact heq.symm
    · exact absurd (hj2.trans hi2.symm) ((List.pairwise_iff_getElem.1 hn) j i hj1 hi1 hlt)
  rw [e]
theorem Sm.step {P : SP} {R : RP} (h : Sm P R) (now : Int) : Sm (P.step now) (R.step now) := by
  obtain ⟨m, hm⟩ : ∃ m, m = Ytghfoooldcbdnaa.room P.q := ⟨_, rfl⟩
  have hsp : P.q.map Rec.fl = (P.q.take m).map Rec.fl ++ (P.q.drop m).map Rec.fl := by rw [← List.map_append, List.take_append_drop]
  have hnd := h.qn
  rw [hsp, List.nodup_append] at hnd
  unfold SP.step RP.step
  rw [h.q, ← hm]
  refine ⟨h.s, h.ev, by show R.nx + 1 = P.nx + 1; rw [h.nx], rfl, by show R.rg ++ _ = P.rg ++ _; rw [h.rg, h.nx, h.ev], ?_, by show 1 ≤ P.nx + 1; have := h.nx1; omega, ?_, ?_, h.tn, ?_, hnd.2.1, ?_, ?_⟩
  · show (P.rg ++ [_]).Pairwise _
    rw [List.pairwise_append]
    refine ⟨h.inc, List.pairwise_singleton _ _, ?_⟩
    intro a ha b hb
    rw [List.mem_singleton.1 hb]
    exact (h.rb a ha).2
  · intro x hx
    have := h.nx1
    show 1 ≤ x.1 ∧ x.1 < P.nx + 1
    rcases List.mem_append.1 hx with hx | hx
    · have := h.rb x hx; omega
    · rw [List.mem_singleton.1 hx]
      show 1 ≤ P.nx ∧ P.nx < P.nx + 1
      omega
  · intro t ht
    have := h.tb t ht
    show 1 ≤ t.1 ∧ t.1 < P.nx + 1
    omega
  · intro x hx t ht
    rcases List.mem_append.1 hx with hx | hx
    · exact h.rt x hx t ht
    · rw [List.mem_singleton.1 hx]
      have := h.tb t ht
      show P.nx ≠ t.1
      omega
  · intro x hx
    rcases List.mem_append.1 hx with hx | hx
    · exact h.xn x hx
    · rw [List.mem_singleton.1 hx]
      exact hnd.1
  · intro f
    have hmk := h.marks f
    have hsays : ∀ p, ({ s := R.s, ev := R.ev, nx := R.nx + 1, q := P.q.drop m, rg := R.rg ++ [(R.nx, P.q.take m, now + R.ev)], td := R.td } : RP).Says f p ↔ R.Says f p ∨ ((∃ r ∈ P.q.take m, r.fl = f) ∧ p = (P.nx, 1)) := by
      intro p
      unfold RP.Says
      dsimp only
      have e : p ∈ candR f (R.rg ++ [(R.nx, P.q.take m, now + R.ev)]) ↔ p ∈ candR f R.rg ∨ ((∃ r ∈ P.q.take m, r.fl = f) ∧ p = (P.nx, 1)) := by
        rw [mem_candR, mem_candR]
        constructor
        · rintro ⟨x, hx, ⟨i, hi⟩, hp⟩
          rcases List.mem_append.1 hx with hx | hx
          · exact .inl ⟨x, hx, ⟨i, hi⟩, hp⟩
          · rw [List.mem_singleton.1 hx] at hi hp
            dsimp only at hi hp
            obtain ⟨r, hr, hrf⟩ := idxQ_some hi
            exact .inr ⟨⟨r, List.mem_of_getElem? hr, hrf⟩, by rw [hp, h.nx]⟩
        · rintro (⟨x, hx, hi, hp⟩ | ⟨hi, hp⟩)
          · exact ⟨x, List.mem_append.2 (.inl hx), hi, hp⟩
          · exact ⟨_, List.mem_append.2 (.inr (List.mem_singleton.2 rfl)), idxQ_of_mem hi, by rw [hp, h.nx]⟩
      rw [e]
      constructor
      · rintro ((h1 | h1) | h1)
        · exact .inl (.inl h1)
        · exact .inr h1
        · exact .inl (.inr h1)
      · rintro ((h1 | h1) | h1)
        · exact .inl (.inl h1)
        · exact .inr h1
        · exact .inl (.inr h1)
    dsimp only
    rw [fold_kpt]
    by_cases hf : ∃ r ∈ P.q.take m, r.fl = f
    · rw [if_pos hf]
      refine ⟨fun ⟨r, hr, e⟩ => ?_, fun _ => .inr ⟨(hsays _).2 (.inr ⟨hf, rfl⟩), h.nx1, fun p hp hne => ?_⟩⟩
      · exfalso
        exact hnd.2.2 f (mem_fl.1 hf) f (mem_fl.1 ⟨r, hr, e⟩) rfl
      · rcases (hsays p).1 hp with h1 | ⟨_, h1⟩
        · show p.1 < P.nx
          rcases h1 with h1 | h1
          · obtain ⟨x, hx, _, rfl⟩ := mem_candR.1 h1
            rw [h.rg] at hx
            exact (h.rb x hx).2
          · obtain ⟨x, hx, _, _, rfl⟩ := mem_candT.1 h1
            exact (h.tb x hx).2
        · exact absurd h1 hne
    · rw [if_neg hf]
      refine hmk.mono ?_ (fun p => ?_)
      · show (∃ r ∈ P.q.drop m, r.fl = f) ↔ ∃ r ∈ R.q, r.fl = f
        rw [h.q]
        constructor
        · rintro ⟨r, hr, e⟩; exact ⟨r, List.mem_of_mem_drop hr, e⟩
        · rintro ⟨r, hr, e⟩
          rw [← List.take_append_drop m P.q] at hr
          rcases List.mem_append.1 hr with hr | hr
          · exact absurd ⟨r, hr, e⟩ hf
          · exact ⟨r, hr, e⟩
      · refine (hsays p).trans ⟨?_, .inl⟩
        rintro (h1 | ⟨h1, _⟩)
        · exact h1
        · exact absurd h1 hf
theorem Sm.loop (now : Int) : ∀ (f : Nat) (P : SP) (R : RP) (o : List (Int × List Rec)), Sm P R → Sm (loopP now f P o).1 (loopR now f R o).1 ∧ (loopR now f R o).2 = (loopP now f P o).2
  | 0, P, R, o, h => ⟨h, rfl⟩
  | f + 1, P, R, o, h => by
    rw [loopP, loopR, h.room, h.q, h.nx]
    split
    · exact Sm.loop now f _ _ _ (h.step now)
    · exact ⟨h, rfl⟩
theorem Sm.sends {P : SP} {R : RP} (h : Sm P R) (now : Int) : Sm (P.sends now).1 (R.sends now).1 ∧ (R.sends now).2 = (P.sends now).2 := by
  unfold SP.sends RP.sends
  split
  · rw [h.q, h.rg, h.ev]
    have := h.rgMap _ (pAgain_1 now P.ev) (pAgain_2 now P.ev)
    rw [h.rg, h.ev, h.q] at this
    exact Sm.loop now _ _ _ _ this
  · exact ⟨h, rfl⟩
/-- One number stands at one place of a row that rises. -/
theorem inc_split (an : Int) : ∀ (l : List (Int × List Rec × Int)), l.Pairwise (fun x y => x.1 < y.1) →
    (l.findIdx? (fun x => decide (x.1 = an)) = none ∧ l.filter (fun x => !decide (x.1 = an)) = l ∧ l.filter (fun x => decide (x.1 = an)) = [] ∧ l.any (fun x => decide (x.1 = an)) = false) ∨
    ∃ k x, l.findIdx? (fun x => decide (x.1 = an)) = some k ∧ l[k]? = some x ∧ x.1 = an ∧ l.filter (fun x => !decide (x.1 = an)) = l.eraseIdx k ∧ l.filter (fun x => decide (x.1 = an)) = [x] ∧ l.any (fun x => decide (x.1 = an)) = true
  | [], _ => .inl ⟨rfl, rfl, rfl, rfl⟩
  | y :: l, hp => by
    by_cases hy : y.1 = an
    · right
      have hgt : ∀ z ∈ l, z.1 ≠ an := fun z hz => by have := List.rel_of_pairwise_cons hp hz; omega
      refine ⟨0, y, by simp [List.findIdx?_cons, hy], rfl, hy, ?_, ?_, by simp [hy]⟩
      · rw [List.filter_cons, if_neg (by simp [hy])]
        show _ = l
        exact List.filter_eq_self.2 (fun z hz => by simp [hgt z hz])
      · rw [List.filter_cons, if_pos (by simp [hy])]
        congr 1
        rw [List.filter_eq_nil_iff]
        intro z hz
        simp [hgt z hz]
    · rcases inc_split an l (List.Pairwise.of_cons hp) with ⟨h1, h2, h3, h4⟩ | ⟨k, x, h1, h2, h3, h4, h5, h6⟩
      · exact .inl ⟨by simp [List.findIdx?_cons, hy, h1], by rw [List.filter_cons, if_pos (by simp [hy]), h2], by rw [List.filter_cons, if_neg (by simp [hy]), h3], by simp only [List.any_cons, h4, decide_eq_false hy, Bool.or_false]⟩
      · exact .inr ⟨k + 1, x, by simp [List.findIdx?_cons, hy, h1], by simpa using h2, h3, by rw [List.filter_cons, if_pos (by simp [hy]), h4]; rfl, by rw [List.filter_cons, if_neg (by simp [hy]), h5], by simp only [List.any_cons, h6, Bool.or_true]⟩
theorem inc_inj {l : List (Int × List Rec × Int)} (h : l.Pairwise (fun x y => x.1 < y.1)) : ∀ x ∈ l, ∀ y ∈ l, x.1 = y.1 → x = y := by
  induction l with
  | nil => intro x hx; cases hx
  | cons z l ih =>
    intro x hx y hy e
    rcases List.mem_cons.1 hx with h1 | h1
    · rcases List.mem_cons.1 hy with h2 | h2
      · rw [h1, h2]
      · have := List.rel_of_pairwise_cons h h2
        rw [h1] at e
        omega
    · rcases List.mem_cons.1 hy with h2 | h2
      · have := List.rel_of_pairwise_cons h h1
        rw [h2] at e
        omega
      · exact ih (List.Pairwise.of_cons h) x h1 y h2 e
theorem mem_erase {l : List (Int × List Rec × Int)} (h : l.Pairwise (fun x y => x.1 < y.1)) {k : Nat} {x : Int × List Rec × Int} (hk : l[k]? = some x) (y : Int × List Rec × Int) : y ∈ l.eraseIdx k ↔ y ∈ l ∧ y.1 ≠ x.1 := by
  rw [List.mem_eraseIdx_iff_getElem?]
  constructor
  · rintro ⟨i, hi, hy⟩
    refine ⟨List.mem_of_getElem? hy, fun e => hi ?_⟩
    have hxy := inc_inj h _ (List.mem_of_getElem? hy) _ (List.mem_of_getElem? hk) e
    subst hxy
    obtain ⟨h1, h2⟩ := List.getElem?_eq_some_iff.1 hy
    obtain ⟨h3, h4⟩ := List.getElem?_eq_some_iff.1 hk
    rcases Nat.lt_trichotomy i k with hlt | heq | hlt
    · have := (List.pairwise_iff_getElem.1 h) i k h1 h3 hlt
      rw [h2, h4] at this
      omega
    · exact heq
    · have := (List.pairwise_iff_getElem.1 h) k i h3 h1 hlt
      rw [h2, h4] at this
      omega
  · rintro ⟨hy, hne⟩
    obtain ⟨i, hi⟩ := List.getElem?_of_mem hy
    refine ⟨i, ?_, hi⟩
    rintro rfl
    rw [hk] at hi
    injection hi with hi
    exact hne (by rw [hi])
theorem Sm.take {P : SP} {R : RP} (h : Sm P R) (as0 an : Int) (ag : Bool) (af now : Int) : Sm (P.take as0 an ag af now).1 (R.take as0 an ag af now).1 ∧ (R.take as0 an ag af now).2 = (P.take as0 an ag af now).2 := by
  unfold SP.take RP.take
  by_cases hs : as0 = P.s
  · rw [if_pos hs, if_pos (hs.trans h.s.symm)]
    split
    · exact ⟨h.rgMap _ (pLate_1 an now) (pLate_2 an now), rfl⟩
    · rw [h.rg]
      rcases inc_split an P.rg h.inc with ⟨h1, h2, h3, h4⟩ | ⟨k, x, h1, h2, h3, h4, h5, h6⟩
      · rw [h1, h2, h3, h4]
        dsimp only
        refine ⟨?_, rfl⟩
        rw [List.map_nil, List.append_nil, ← h.rg]
        exact h
      · rw [h1, h4, h5, h6]
        dsimp only
        rw [h2]
        dsimp only
        have hxm := List.mem_of_getElem? h2
        have hme := mem_erase h.inc h2
        refine ⟨⟨h.s, h.ev, h.nx, h.q, rfl, h.inc.sublist (List.eraseIdx_sublist P.rg k), h.nx1, fun y hy => h.rb y ((hme y).1 hy).1, ?_, ?_, ?_, h.qn, fun y hy => h.xn y ((hme y).1 hy).1, ?_⟩, rfl⟩
        · intro t ht
          rcases List.mem_append.1 ht with ht | ht
          · exact h.tb t ht
          · rw [List.mem_singleton.1 ht]
            exact h.rb x hxm
        · intro t ht u hu e
          rcases List.mem_append.1 ht with ht | ht <;> rcases List.mem_append.1 hu with hu | hu
          · exact h.tn t ht u hu e
          · rw [List.mem_singleton.1 hu] at e
            exact absurd e.symm (h.rt x hxm t ht)
          · rw [List.mem_singleton.1 ht] at e
            exact absurd e (h.rt x hxm u hu)
          · rw [List.mem_singleton.1 ht, List.mem_singleton.1 hu]
        · intro y hy t ht
          obtain ⟨hy1, hy2⟩ := (hme y).1 hy
          rcases List.mem_append.1 ht with ht | ht
          · exact h.rt y hy1 t ht
          · rw [List.mem_singleton.1 ht]
            exact hy2
        · intro f
          have hmk := h.marks f
          have hx1 := (h.rb x hxm).1
          dsimp only
          obtain ⟨R', hR'⟩ : ∃ R' : RP, R' = { s := R.s, ev := R.ev, nx := R.nx, q := R.q, rg := P.rg.eraseIdx k, td := R.td ++ [x].map (fun x => (x.1, x.2.1, af)) } := ⟨_, rfl⟩
          rw [← hR']
          have hq' : R'.q = R.q := by rw [hR']
          have hs1 : ∀ p : Int × Int, p.1 ≠ an → (R'.Says f p ↔ R.Says f p) := by
            intro p hp
            rw [hR']
            unfold RP.Says
            dsimp only
            rw [mem_candR, mem_candR, mem_candT, mem_candT, h.rg]
            constructor
            · rintro (⟨y, hy, hi, e⟩ | ⟨t, ht, i, hi, e⟩)
              · exact .inl ⟨y, ((hme y).1 hy).1, hi, e⟩
              · rcases List.mem_append.1 ht with ht | ht
                · exact .inr ⟨t, ht, i, hi, e⟩
                · rw [show t = (x.1, x.2.1, af) from by simpa using ht] at e
                  exact absurd (by rw [e]; exact h3) hp
            · rintro (⟨y, hy, hi, e⟩ | ⟨t, ht, i, hi, e⟩)
              · exact .inl ⟨y, (hme y).2 ⟨hy, fun e2 => hp (by rw [e]; exact e2.trans h3)⟩, hi, e⟩
              · exact .inr ⟨t, List.mem_append.2 (.inl ht), i, hi, e⟩
          have hs2 : ∀ p : Int × Int, p.1 = an → (R.Says f p ↔ (∃ i, idxQ x.2.1 f = some i) ∧ p = (an, 1)) := by
            intro p hp
            unfold RP.Says
            rw [mem_candR, mem_candT, h.rg]
            constructor
            · rintro (⟨y, hy, hi, e⟩ | ⟨t, ht, i, hi, e⟩)
              · have : y = x := inc_inj h.inc y hy x hxm (by rw [h3, ← hp, e])
                subst this
                exact ⟨hi, by rw [e, h3]⟩
              · exact absurd (by rw [h3, ← hp, e]) (h.rt x hxm t ht)
            · rintro ⟨hi, e⟩
              exact .inl ⟨x, hxm, hi, by rw [e, h3]⟩
          have hs3 : ∀ p : Int × Int, p.1 = an → (R'.Says f p ↔ ∃ i, idxQ x.2.1 f = some i ∧ p = (an, if bitA af i = true then 3 else 2)) := by
            intro p hp
            rw [hR']
            unfold RP.Says
            dsimp only
            rw [mem_candR, mem_candT]
            constructor
            · rintro (⟨y, hy, hi, e⟩ | ⟨t, ht, i, hi, e⟩)
              · exact absurd (by rw [h3, ← hp, e]) ((hme y).1 hy).2
              · rcases List.mem_append.1 ht with ht | ht
                · exact absurd (by rw [h3, ← hp, e]) (h.rt x hxm t ht)
                · rw [show t = (x.1, x.2.1, af) from by simpa using ht] at hi e
                  exact ⟨i, hi, by rw [e, h3]⟩
            · rintro ⟨i, hi, e⟩
              exact .inr ⟨(x.1, x.2.1, af), by simp, i, hi, by rw [e, h3]⟩
          have hkn : ∀ st n : Int, (st, n) = kmk P.kn f → n ≠ an → kmk (tk P.kn an af x.2.1 x.2.1.length) f = (st, n) := by
            intro st n e hn
            rcases tk_known P.kn an af x.2.1 f x.2.1.length with ⟨h7, _⟩ | ⟨h7, _⟩
            · rw [h7, e]
            · rw [h7] at e
              exact absurd (congrArg Prod.snd e) hn
          obtain ⟨st, n, hstn⟩ : ∃ st n, (st, n) = kmk P.kn f := ⟨_, _, rfl⟩
          rw [← hstn] at hmk
          dsimp only at hmk
          by_cases hqf : ∃ r ∈ R.q, r.fl = f
          · have e0 := hmk.1 hqf
            have hn0 : n = 0 := congrArg Prod.snd e0
            rw [hkn st n hstn (by omega)]
            exact ⟨fun _ => e0, fun h8 => by
              obtain ⟨r, hr, e⟩ := hqf
              exact absurd e (h8 r (by rw [hq']; exact hr))⟩
          · have hno : ∀ r ∈ R.q, r.fl ≠ f := fun r hr e => hqf ⟨r, hr, e⟩
            rcases hmk.2 hno with ⟨h8, h9⟩ | ⟨h8, h9, h10⟩
            · have hn0 : n = 0 := congrArg Prod.snd h9
              rw [hkn st n hstn (by omega)]
              refine ⟨fun ⟨r, hr, e⟩ => absurd e (hno r (by rw [← hq']; exact hr)), fun _ => .inl ⟨fun p hp => ?_, h9⟩⟩
              by_cases hpa : p.1 = an
              · obtain ⟨i, hi, _⟩ := (hs3 p hpa).1 hp
                exact h8 (an, 1) ((hs2 (an, 1) rfl).2 ⟨⟨i, hi⟩, rfl⟩)
              · exact h8 p ((hs1 p hpa).1 hp)
            · by_cases hna : n = an
              · obtain ⟨⟨i, hi⟩, e⟩ := (hs2 (n, st) hna).1 h8
                have hst : st = 1 := congrArg Prod.snd e
                have hk1 : kmk P.kn f = (1, an) := by rw [← hstn, hst, hna]
                rcases tk_known P.kn an af x.2.1 f x.2.1.length with ⟨_, h12⟩ | ⟨_, j, ⟨hj, r, hr, hrf⟩, h12⟩
                · exfalso
                  rcases h12 with h12 | h12
                  · exact h12 hk1
                  · obtain ⟨r, hr, hrf⟩ := idxQ_some hi
                    exact h12 r (by rw [List.take_length]; exact List.mem_of_getElem? hr) hrf
                · rw [h12]
                  have hij : idxQ x.2.1 f = some j := idxQ_nodup (h.xn x hxm) hr hrf
                  refine ⟨fun ⟨r, hr, e⟩ => absurd e (hno r (by rw [← hq']; exact hr)), fun _ => .inr ⟨(hs3 _ rfl).2 ⟨j, hij, rfl⟩, by show 1 ≤ an; omega, fun p hp hne => ?_⟩⟩
                  show p.1 < an
                  by_cases hpa : p.1 = an
                  · obtain ⟨i', hi', e'⟩ := (hs3 p hpa).1 hp
                    rw [hij] at hi'
                    injection hi' with hi'
                    subst hi'
                    exact absurd e' hne
                  · have := h10 p ((hs1 p hpa).1 hp) (fun e => hpa (by rw [e]; exact hna))
                    omega
              · rw [hkn st n hstn hna]
                refine ⟨fun ⟨r, hr, e⟩ => absurd e (hno r (by rw [← hq']; exact hr)), fun _ => .inr ⟨(hs1 (n, st) hna).2 h8, h9, fun p hp hne => ?_⟩⟩
                show p.1 < n
                by_cases hpa : p.1 = an
                · obtain ⟨i, hi, _⟩ := (hs3 p hpa).1 hp
                  have := h10 (an, 1) ((hs2 (an, 1) rfl).2 ⟨⟨i, hi⟩, rfl⟩) (fun e => hna (congrArg Prod.fst e).symm)
                  rw [hpa]
                  exact this
                · exact h10 p ((hs1 p hpa).1 hp) hne
  · rw [if_neg hs, if_neg (fun e => hs (e.trans h.s))]
    exact ⟨h, rfl⟩
end Go.Proofs.Ytghfoooldcbdnaa
