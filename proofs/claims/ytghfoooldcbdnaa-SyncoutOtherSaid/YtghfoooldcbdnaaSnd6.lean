/-
  THE SENDER OF PACKAGE syncout: Take, where the answer tells of a batch.
-/
import Derived.Test.YtghfoooldcbdnaaSnd5
import Derived.WalkSmall
set_option linter.unusedVariables false
set_option linter.unusedSimpArgs false
namespace Go.Proofs.Ytghfoooldcbdnaa
open Go.RowKit Go.Proofs.Ytghfoooldcbdnaa.SL Go.Proofs.YtghfoooldcbdnaaW.PrintWords

/-- Is a record refused? -/
def bitA (af : Int) (j : Nat) : Bool := (af / 2 ^ j) % 2 == 1
/-- What is known behind j records of a batch that is told of. -/
def tk (kn : List (Fl × Int × Int)) (an af : Int) (l : List Rec) : Nat → List (Fl × Int × Int)
  | 0 => kn
  | j + 1 => match l[j]? with
    | none => tk kn an af l j
    | some r => if kmk (tk kn an af l j) r.fl = (1, an) then kpt (tk kn an af l j) r.fl (if bitA af j = true then 3 else 2, an) else tk kn an af l j
def SS.take (S : SS) (as0 an : Int) (ag : Bool) (af now : Int) : SS × Bool :=
  if as0 = S.s then
    if ag = true then ({ S with rg := S.rg.map (Sn.late an now) }, true)
    else match idxR S.rg an with
      | none => (S, false)
      | some k => match S.rg[k]? with
        | none => (S, false)
        | some x => ({ S with rg := S.rg.eraseIdx k, kn := tk S.kn an af x.l x.l.length }, true)
  else (S, false)
set_option maxRecDepth 100000 in
theorem run_neq_mk (a b c d : Int) (w : World) : (binOp .neq 138 (.agg #[.int .i64 a, .int .i64 b]) (.agg #[.int .i64 c, .int .i64 d])).run Try.prog w = .ok (.bool (!decide ((a, b) = (c, d)))) w := by
  by_cases h1 : a = c
  · by_cases h2 : b = d
    · subst h1 h2
      go_simp
    · rw [show decide ((a, b) = (c, d)) = false by simp [h2]]
      subst h1
      go_simp
  · rw [show decide ((a, b) = (c, d)) = false by simp [h1]]
    go_simp
section
variable {ops : Array Oper} {a : Act} {Q : Exit → Act → World → Prop} {S : World → Prop} {w : World}
variable {dst : Option Tmp} {ty : TypeId} {pos : String} {after : Array Edge} {gd : Option (Nat × Bool)} {i : Nat} {p : List (Nat × Nat)}
theorem t_neqmk {x y : Operand} {b c d e : Int} {v : Bool} (hv : (!decide ((b, c) = (d, e))) = v) (ho : ops.toList[i]? = some ⟨dst, .binOp .neq 138 x y 138, ty, pos, after, gd⟩) (hw : Region.wanted ⟨dst, .binOp .neq 138 x y 138, ty, pos, after, gd⟩ (yielded ops a.tmps) = true)
    (hx : Ev a x (.agg #[.int .i64 b, .int .i64 c])) (hy : Ev a y (.agg #[.int .i64 d, .int .i64 e]))
    (k : wpT Try.prog ops Q S p (a.put dst (.bool v)) w) : wpT Try.prog ops Q S ((i, 1) :: p) a w :=
  t_pure ho hw (fun w => by
    subst hv
    have h := run_neq_mk b c d e w
    have hg : (eqGuard .neq 138 x y (.agg #[.int .i64 b, .int .i64 c]) (.agg #[.int .i64 d, .int .i64 e])).run Try.prog w = .ok () w := by
      unfold eqGuard
      go_simp
    simp only [execOp, hx.eq, hy.eq, Sem.run_bind, hg, h, Result.andThen_ok, Sem.run_pure]) k
end
set_option maxHeartbeats 4000000 in
set_option maxRecDepth 100000 in
theorem Take_none (g : Nat) (S : SS) (as0 an af now : Int) (hs : as0 = S.s) (hi : idxR S.rg an = none) (hl : S.rg.length ≤ 1000000) (B : Nat) (w0 w : World) (H : List As) (HM : SL.Mod B w0 (snd g S :: H) w) :
    Calls Try.prog 36 #[.pointer (some ⟨g, 0, none⟩), .agg (ansC as0 an false af).toArray, .int .i64 now] w fun e w' => e = .returned (.bool false) ∧ SL.Mod B w0 (snd g S :: H) w' := by
  subst hs
  obtain ⟨gm, AQ, cQ, AR, cR, HM1⟩ := Mod.openSnd HM
  clear HM
  have HM := HM1
  clear HM1
  have hd : (S.s != S.s) = false := by simp
  have HI : Aside0 (optIx (idxR S.rg an) = -1) := ⟨by rw [hi]; rfl⟩
  have HQ := Aside0.mk hl
  clear hi
  go_enter Try.func36, Try.ntmps36
  go_wp2_with (first | go_step3 | ((with_reducible apply sl_want); exact rfl) | ((with_reducible apply sl_load HM); exact rfl; infer_instance; infer_instance; (try simp only [Act.put, List.setIfInBounds_toArray, List.set_cons_zero, List.set_cons_succ])) | ((with_reducible apply sl_store HM); exact rfl; (first | exact Ev.tmp rfl | exact Ev.const); infer_instance; infer_instance; infer_instance; clear HM; (try clear wq); intro wq HM; (try simp only [Act.put, List.setIfInBounds_toArray, List.set_cons_zero, List.set_cons_succ])) | ((with_reducible apply sl_loadR); exact rfl; assumption; (try simp only [Act.put, List.setIfInBounds_toArray, List.set_cons_zero, List.set_cons_succ])) | ((with_reducible apply sl_loadH HM); exact rfl; assumption; infer_instance; (try simp only [Act.put, List.setIfInBounds_toArray, List.set_cons_zero, List.set_cons_succ])) | ((with_reducible refine gate_dst (N := 4) rfl ?_); (with_reducible apply sl_box HM); (first | exact Ev.tmp rfl | exact Ev.const); exact rfl; clear HM; (try clear wq); intro g4 wq HM; (try simp only [Act.put, List.setIfInBounds_toArray, List.set_cons_zero, List.set_cons_succ])) | ((with_reducible refine gate_dst (N := 10) rfl ?_); (with_reducible apply sl_alloc HM); infer_instance; clear HM; (try clear wq); intro g10 wq HM; (try simp only [Act.put, List.setIfInBounds_toArray, List.set_cons_zero, List.set_cons_succ])))
  refine wp_drawnS HM [] [(0, 1), (1, 0), (2, 1), (3, 1), (4, 1), (5, 0), (6, 1)] (by kernel_rfl) (by kernel_rfl) (by kernel_rfl) (by kernel_rfl) (fun _ _ d _ _ h => by cases d <;> exact h) ?_; clear HM; (try clear wq); intro wq HM
  repeat (first | ((with_reducible apply t_move); exact rfl; exact rfl; (first | exact Ev.tmp rfl | exact Ev.const); (try simp only [Act.put, List.setIfInBounds_toArray, List.set_cons_zero, List.set_cons_succ])) | ((with_reducible apply t_assign); exact rfl; exact rfl; (first | exact Ev.tmp rfl | exact Ev.const); (try simp only [Act.put, List.setIfInBounds_toArray, List.set_cons_zero, List.set_cons_succ])) | ((with_reducible apply t_load HM); exact rfl; exact rfl; exact rfl; infer_instance; infer_instance; infer_instance; (try simp only [Act.put, List.setIfInBounds_toArray, List.set_cons_zero, List.set_cons_succ])) | ((with_reducible apply t_loadH HM); exact rfl; exact rfl; exact rfl; assumption; infer_instance; infer_instance; (try simp only [Act.put, List.setIfInBounds_toArray, List.set_cons_zero, List.set_cons_succ])) | ((with_reducible apply t_skip); exact rfl; exact rfl; (try simp only [Act.put, List.setIfInBounds_toArray, List.set_cons_zero, List.set_cons_succ])) | ((with_reducible apply t_skip0 HM); exact rfl; exact rfl; infer_instance; (try simp only [Act.put, List.setIfInBounds_toArray, List.set_cons_zero, List.set_cons_succ])) | ((with_reducible apply t_skip2 HM); exact rfl; exact rfl; infer_instance; (try simp only [Act.put, List.setIfInBounds_toArray, List.set_cons_zero, List.set_cons_succ])) | ((with_reducible apply t_pure); exact rfl; exact rfl; (focus (intro wv; go_simp; (try (go_ints; (try go_simp))); (first | done | rfl | (rw [if_pos (by omega)]; done)))); (try simp only [Act.put, List.setIfInBounds_toArray, List.set_cons_zero, List.set_cons_succ])))
  refine t_nil ?_
  go_wp2_with first | (go_at_call 74; refine (indexR_calls S.s S.rg S.s an af false _ _ g4 HQ.out B w0 _ _ (fun w h => (ownsRow_reads (h.rowOwn (.slice AR S.rg.length cR))).1) HM).mono ?_; rintro e wq ⟨rfl, HM1⟩; clear HM; have HM := HM1; clear HM1; rw [HI.out]) | (first | go_step3 | ((with_reducible apply sl_want); exact rfl) | ((with_reducible apply sl_load HM); exact rfl; infer_instance; infer_instance; (try simp only [Act.put, List.setIfInBounds_toArray, List.set_cons_zero, List.set_cons_succ])) | ((with_reducible apply sl_store HM); exact rfl; (first | exact Ev.tmp rfl | exact Ev.const); infer_instance; infer_instance; infer_instance; clear HM; (try clear wq); intro wq HM; (try simp only [Act.put, List.setIfInBounds_toArray, List.set_cons_zero, List.set_cons_succ])) | ((with_reducible apply sl_loadR); exact rfl; assumption; (try simp only [Act.put, List.setIfInBounds_toArray, List.set_cons_zero, List.set_cons_succ])) | ((with_reducible apply sl_loadH HM); exact rfl; assumption; infer_instance; (try simp only [Act.put, List.setIfInBounds_toArray, List.set_cons_zero, List.set_cons_succ])) | ((with_reducible refine gate_dst (N := 4) rfl ?_); (with_reducible apply sl_box HM); (first | exact Ev.tmp rfl | exact Ev.const); exact rfl; clear HM; (try clear wq); intro g4 wq HM; (try simp only [Act.put, List.setIfInBounds_toArray, List.set_cons_zero, List.set_cons_succ])) | ((with_reducible refine gate_dst (N := 10) rfl ?_); (with_reducible apply sl_alloc HM); infer_instance; clear HM; (try clear wq); intro g10 wq HM; (try simp only [Act.put, List.setIfInBounds_toArray, List.set_cons_zero, List.set_cons_succ])))
  exact sl_ret1 rfl (vals_tmp rfl .nil) ⟨rfl, (Mod.closeSnd (gm := gm) (vQ := .slice AQ S.q.length cQ) (vR := .slice AR S.rg.length cR) HM.sub)⟩
end Go.Proofs.Ytghfoooldcbdnaa
