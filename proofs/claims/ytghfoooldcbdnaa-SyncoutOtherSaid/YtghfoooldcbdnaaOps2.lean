/-
  MORE OPERATIONS ON ONE's OWN THINGS: append of what is read elsewhere.
-/
import Derived.Test.YtghfoooldcbdnaaOps
set_option linter.unusedVariables false
set_option linter.unusedSimpArgs false
namespace Go.Proofs.Ytghfoooldcbdnaa.SL
open Go.RowKit Go.Proofs.YtghfoooldcbdnaaW.PrintWords
section
variable {P : Program} {ops : Array Oper} {rest : List Oper} {a : Act} {Q : Exit → Act → World → Prop} {B : Nat} {w0 w : World} {H H' R HS : List As}
variable {dst : Option Tmp} {ty : TypeId} {pos : String} {after : Array Edge} {gd : Option (Nat × Bool)} {K : Act → World → Prop} {S : World → Prop} {i : Nat} {p : List (Nat × Nat)}
theorem run_append_none {t e : TypeId} {sz bytes : Nat} [he : Elem P t e sz bytes] {v : Value} {n c : Nat} {xs : List Value} (ho : w.ownsRow 0 e sz v n xs) : (Builtin.append_ #[t, t] ty #[v, .slice none 0 c]).run P w = .ok v w := by
  obtain ⟨ht, ⟨i, z, hi, hz, hs, hby, hzs⟩, hs0, hb0⟩ := he.ok
  rcases ho.2 with ⟨rfl, rfl⟩ | ⟨g, cap, cur, rfl, _, _, hnc, _⟩
  · simp [Builtin.append_, run_underlying ht, sizeOf, typeInfo, hi, Builtin.lenOf, Builtin.firstCells]
  · simp [Builtin.append_, run_underlying ht, sizeOf, typeInfo, hi, Builtin.lenOf, Builtin.firstCells, hnc, storeCells]
theorem ow_append_reads {s x : Operand} {t e : TypeId} {sz bytes : Nat} {v : Value} {n : Nat} {xs : List Value} (HM : Mod B w0 H w) (hs : Ev a s v) (hr : Row H v e sz n xs R)
    {A : Option Addr} {m c : Nat} {news : List Value} (hx : Ev a x (.slice A m c)) (he : Elem P t e sz bytes) (hnews : Reads w A news) (hl : news.length = m * sz) (h1 : Ones news) (hb : (n + m) * bytes ≤ 140737488355328)
    (k : ∀ v' w', Mod B w0 (row v' e sz (n + m) (xs ++ news) :: R) w' → K (a.put dst v') w') :
    Oper.wp P ⟨dst, .call { callee := .builtin .append, args := #[s, x], argTypes := #[t, t] }, ty, pos, after, gd⟩ a w K Q := by
  cases A with
  | some ad => exact ow_append HM hs hr hx he hl hnews.at h1 hb k
  | none =>
    have hn : news = [] := by
      cases news with
      | nil => rfl
      | cons y ys =>
        obtain ⟨ad, h, _⟩ := hnews 0 _ rfl
        cases h
    subst hn
    have hm : m = 0 := by
      obtain ⟨_, _, hs0, _⟩ := he.ok
      have h2 : m * sz = 0 := by simpa using hl.symm
      rcases Nat.mul_eq_zero.1 h2 with h2 | h2
      · exact h2
      · omega
    subst hm
    unfold Oper.wp execOp
    simp only [resolve, invoke, builtin, Sem.run_bind, Sem.run_pure, Result.andThen_ok, List.map_toArray, List.map_cons, List.map_nil, hs.eq, hx.eq, run_append_none (P := P) (t := t) (ty := ty) (HM.rowOwn v)]
    refine k v w ?_
    rw [Nat.add_zero, List.append_nil]
    exact HM.pickRow v
theorem sl_append_reads {s x : Operand} {t e : TypeId} {sz bytes : Nat} {v : Value} {n : Nat} {xs : List Value} (HM : Mod B w0 H w) (hs : Ev a s v) (hr : Row H v e sz n xs R)
    {A : Option Addr} {m c : Nat} {news : List Value} (hx : Ev a x (.slice A m c)) (he : Elem P t e sz bytes) (hnews : Reads w A news) (hl : news.length = m * sz) (h1 : Ones news) (hb : (n + m) * bytes ≤ 140737488355328)
    (k : ∀ v' w', Mod B w0 (row v' e sz (n + m) (xs ++ news) :: R) w' → wpList P ops Q rest (a.put dst v') w') :
    wpList P ops Q (⟨dst, .call { callee := .builtin .append, args := #[s, x], argTypes := #[t, t] }, ty, pos, after, none⟩ :: rest) a w :=
  wpList_plain rfl fun _ hK => ow_append_reads HM hs hr hx he hnews hl h1 hb fun v' w' h => hK _ _ (k v' w' h)
theorem Mod.blk2 (h : Mod B w0 H w) (g1 g2 : Nat) {o1 o2 : Obj} {R1 R2 : List As} [s1 : Blk H g1 o1 R1] [s2 : Blk R1 g2 o2 R2] : Mod B w0 (blk g1 o1 :: blk g2 o2 :: R2) w :=
  ⟨h.below, h.low, by
    obtain ⟨F1, a1, a2, a3⟩ := s1.sat h.sat
    exact ⟨F1, a1, a2, s2.sat a3⟩⟩
theorem Mod.blk3 (h : Mod B w0 H w) (g1 g2 g3 : Nat) {o1 o2 o3 : Obj} {R1 R2 R3 : List As} [s1 : Blk H g1 o1 R1] [s2 : Blk R1 g2 o2 R2] [s3 : Blk R2 g3 o3 R3] : Mod B w0 (blk g1 o1 :: blk g2 o2 :: blk g3 o3 :: R3) w :=
  ⟨h.below, h.low, by
    obtain ⟨F1, a1, a2, a3⟩ := s1.sat h.sat
    obtain ⟨F2, b1, b2, b3⟩ := s2.sat a3
    exact ⟨F1, a1, a2, F2, b1, b2, s3.sat b3⟩⟩
/-- Two blocks are to be written in the region: the reads stand on the rest. -/
theorem wp_drawnB2 {id : Nat} (HM : Mod B w0 H w) (g1 g2 : Nat) {o1 o2 : Obj} {R1 R2 : List As} [s1 : Blk H g1 o1 R1] [s2 : Blk R1 g2 o2 R2] (ds : List Nat) (p : List (Nat × Nat)) (hm : P.follows .mixedOrders = true) (hs : Region.noSelect ops = true) (hl : decide (p.length ≤ ops.size) = true)
    (hok : okT .any ops ds p (Array.replicate ops.size false) = true)
    (hQ : ∀ c a d v w, Q (.panic c) (Act.put a d v) w → Q (.panic c) a w) (h : ∀ w', Mod B w0 (blk g1 o1 :: blk g2 o2 :: R2) w' → wpT P ops Q (Mod B w0 R2) p a w') : (Code.region id ops true).wp P Q a w :=
  wp_drawnM (HM.blk2 g1 g2) R2 ds p hm hs hl hok hQ h
/-- Three blocks are to be written in the region: the reads stand on the rest. -/
theorem wp_drawnB3 {id : Nat} (HM : Mod B w0 H w) (g1 g2 g3 : Nat) {o1 o2 o3 : Obj} {R1 R2 R3 : List As} [s1 : Blk H g1 o1 R1] [s2 : Blk R1 g2 o2 R2] [s3 : Blk R2 g3 o3 R3] (ds : List Nat) (p : List (Nat × Nat)) (hm : P.follows .mixedOrders = true) (hs : Region.noSelect ops = true) (hl : decide (p.length ≤ ops.size) = true)
    (hok : okT .any ops ds p (Array.replicate ops.size false) = true)
    (hQ : ∀ c a d v w, Q (.panic c) (Act.put a d v) w → Q (.panic c) a w) (h : ∀ w', Mod B w0 (blk g1 o1 :: blk g2 o2 :: blk g3 o3 :: R3) w' → wpT P ops Q (Mod B w0 R3) p a w') : (Code.region id ops true).wp P Q a w :=
  wp_drawnM (HM.blk3 g1 g2 g3) R3 ds p hm hs hl hok hQ h
end
end Go.Proofs.Ytghfoooldcbdnaa.SL
