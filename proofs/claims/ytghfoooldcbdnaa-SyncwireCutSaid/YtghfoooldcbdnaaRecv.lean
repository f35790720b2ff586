/-
  THE RECEIVER OF PACKAGE syncin: what it keeps, and each of its methods walked.
-/
import Derived.Test.YtghfoooldcbdnaaEnc
import Derived.Outline
set_option linter.unusedVariables false
set_option linter.unusedSimpArgs false
namespace Go.Proofs.Ytghfoooldcbdnaa
open Go.RowKit Go.Proofs.Ytghfoooldcbdnaa.SL Go.Proofs.YtghfoooldcbdnaaW.PrintWords

/-- What a receiver keeps: the session, the last batch, what was refused of the last sixteen, how many were applied. -/
structure RS where
  (s l : Int) (fs : List Int) (d : Int)
abbrev u64s (l : List Int) : List Value := l.map (Value.int .u64)
instance u64s_ones (l : List Int) : Ones (u64s l) := ⟨by intro u hu; obtain ⟨x, _, rfl⟩ := List.mem_map.1 hu; rfl⟩
abbrev RS.cells (r : RS) : List Value := .int .i64 r.s :: .int .i64 r.l :: (u64s r.fs ++ [.int .i64 r.d])
def RS.new : RS := ⟨-1, 0, List.replicate 16 0, 0⟩
theorem seg_end (fs : List Value) (x : Value) (h : fs.length = 16) : SegAt (fs ++ [x]) 16 1 [x] := ⟨⟨by rw [← h]; simp, by simp [h]⟩⟩
theorem put_end (fs : List Value) (x y : Value) (h : fs.length = 16) : PutAt (fs ++ [x]) 16 [y] (fs ++ [y]) := ⟨⟨by rw [← h]; simp, by simp [h]⟩⟩

set_option maxHeartbeats 1000000 in
set_option maxRecDepth 100000 in
theorem New_calls (w : World) : Calls Try.prog 20 #[] w fun e w' => ∃ g, e = .returned (.pointer (some ⟨g, 0, none⟩)) ∧ Mod w.heap.size w [cells g RS.new.cells 127] w' := by
  have HM := Mod.start w
  go_enter Try.func20, Try.ntmps20
  go_wp2_with (first | go_step3 | ((with_reducible apply sl_want); exact rfl) | ((with_reducible apply sl_load HM); exact rfl; infer_instance; infer_instance; (try simp only [Act.put, List.setIfInBounds_toArray, List.set_cons_zero, List.set_cons_succ])) | ((with_reducible apply sl_store HM); exact rfl; (first | exact Ev.tmp rfl | exact Ev.const); infer_instance; infer_instance; infer_instance; clear HM; (try clear wq); intro wq HM; (try simp only [Act.put, List.setIfInBounds_toArray, List.set_cons_zero, List.set_cons_succ])) | ((with_reducible apply sl_loadR); exact rfl; assumption; (try simp only [Act.put, List.setIfInBounds_toArray, List.set_cons_zero, List.set_cons_succ])) | ((with_reducible refine gate_dst (N := 2) rfl ?_); (with_reducible apply sl_box HM); (first | exact Ev.tmp rfl | exact Ev.const); exact rfl; clear HM; (try clear wq); intro g2 wq HM; (try simp only [Act.put, List.setIfInBounds_toArray, List.set_cons_zero, List.set_cons_succ])))
  exact sl_ret1 rfl (vals_tmp rfl .nil) ⟨_, rfl, HM⟩

set_option maxHeartbeats 1000000 in
set_option maxRecDepth 100000 in
theorem Last_calls (g : Nat) (r : RS) (B : Nat) (w0 w : World) (H : List As) (HM : Mod B w0 (cells g r.cells 127 :: H) w) : Calls Try.prog 25 #[.pointer (some ⟨g, 0, none⟩)] w fun e w' => e = .returned (.tuple #[.int .i64 r.s, .int .i64 r.l]) ∧ Mod B w0 (cells g r.cells 127 :: H) w' := by
  go_enter Try.func25, Try.ntmps25
  go_wp2_with (first | go_step3 | ((with_reducible apply sl_want); exact rfl) | ((with_reducible apply sl_load HM); exact rfl; infer_instance; infer_instance; (try simp only [Act.put, List.setIfInBounds_toArray, List.set_cons_zero, List.set_cons_succ])) | ((with_reducible apply sl_store HM); exact rfl; (first | exact Ev.tmp rfl | exact Ev.const); infer_instance; infer_instance; infer_instance; clear HM; (try clear wq); intro wq HM; (try simp only [Act.put, List.setIfInBounds_toArray, List.set_cons_zero, List.set_cons_succ])) | ((with_reducible apply sl_loadR); exact rfl; assumption; (try simp only [Act.put, List.setIfInBounds_toArray, List.set_cons_zero, List.set_cons_succ])))
  refine wp_drawnS HM [] [(0, 1), (1, 1), (2, 1), (3, 0), (4, 1), (5, 1), (6, 1), (7, 0), (8, 1), (9, 1)] (by kernel_rfl) (by kernel_rfl) (by kernel_rfl) (by kernel_rfl) (fun _ _ d _ _ h => by cases d <;> exact h) ?_; clear HM; (try clear wq); intro wq HM
  repeat (first | ((with_reducible apply t_move); exact rfl; exact rfl; (first | exact Ev.tmp rfl | exact Ev.const); (try simp only [Act.put, List.setIfInBounds_toArray, List.set_cons_zero, List.set_cons_succ])) | ((with_reducible apply t_assign); exact rfl; exact rfl; (first | exact Ev.tmp rfl | exact Ev.const); (try simp only [Act.put, List.setIfInBounds_toArray, List.set_cons_zero, List.set_cons_succ])) | ((with_reducible apply t_load HM); exact rfl; exact rfl; exact rfl; infer_instance; infer_instance; infer_instance; (try simp only [Act.put, List.setIfInBounds_toArray, List.set_cons_zero, List.set_cons_succ])) | ((with_reducible apply t_skip); exact rfl; exact rfl; (try simp only [Act.put, List.setIfInBounds_toArray, List.set_cons_zero, List.set_cons_succ])) | ((with_reducible apply t_skip0 HM); exact rfl; exact rfl; infer_instance; (try simp only [Act.put, List.setIfInBounds_toArray, List.set_cons_zero, List.set_cons_succ])) | ((with_reducible apply t_skip2 HM); exact rfl; exact rfl; infer_instance; (try simp only [Act.put, List.setIfInBounds_toArray, List.set_cons_zero, List.set_cons_succ])) | ((with_reducible apply t_pure); exact rfl; exact rfl; (focus (intro wv; go_simp; (try (go_ints; (try go_simp))); (first | done | rfl | (rw [if_pos (by omega)]; done)))); (try simp only [Act.put, List.setIfInBounds_toArray, List.set_cons_zero, List.set_cons_succ])))
  refine t_nil ?_
  go_wp2_with (fail)
  exact sl_ret rfl (by simp) (vals_tmp rfl (vals_tmp rfl .nil)) ⟨rfl, HM⟩

set_option maxHeartbeats 1000000 in
set_option maxRecDepth 100000 in
theorem Done_calls (g : Nat) (r : RS) (hf : r.fs.length = 16) (B : Nat) (w0 w : World) (H : List As) (HM : Mod B w0 (cells g r.cells 127 :: H) w) : Calls Try.prog 26 #[.pointer (some ⟨g, 0, none⟩)] w fun e w' => e = .returned (.int .i64 r.d) ∧ Mod B w0 (cells g r.cells 127 :: H) w' := by
  haveI := seg_end (u64s r.fs) (.int .i64 r.d) (by simpa using hf)
  go_enter Try.func26, Try.ntmps26
  go_wp2_with (first | go_step3 | ((with_reducible apply sl_want); exact rfl) | ((with_reducible apply sl_load HM); exact rfl; infer_instance; infer_instance; (try simp only [Act.put, List.setIfInBounds_toArray, List.set_cons_zero, List.set_cons_succ])) | ((with_reducible apply sl_store HM); exact rfl; (first | exact Ev.tmp rfl | exact Ev.const); infer_instance; infer_instance; infer_instance; clear HM; (try clear wq); intro wq HM; (try simp only [Act.put, List.setIfInBounds_toArray, List.set_cons_zero, List.set_cons_succ])) | ((with_reducible apply sl_loadR); exact rfl; assumption; (try simp only [Act.put, List.setIfInBounds_toArray, List.set_cons_zero, List.set_cons_succ])))
  exact sl_ret1 rfl (vals_tmp rfl .nil) ⟨rfl, HM⟩

/-- What is known of a batch by its number. -/
def RS.known (r : RS) (n : Int) : Int := if n ≤ r.l - 16 then 18446744073709551615 else r.fs.getD (n % 16).toNat 0
theorem seg_ix (a b : Value) (fs : List Int) (x : Value) (h : fs.length = 16) (i : Nat) (hi : i < 16) : SegAt (a :: b :: (u64s fs ++ [x])) (2 + i) 1 [.int .u64 (fs.getD i 0)] := by
  refine ⟨⟨?_, by simp; omega⟩⟩
  have h1 : (u64s fs ++ [x]).drop i = .int .u64 (fs.getD i 0) :: (u64s fs ++ [x]).drop (i + 1) := by
    rw [List.drop_eq_getElem_cons (by simp; omega), List.getElem_append_left (by simp; omega)]
    simp [List.getD_eq_getElem?_getD, List.getElem?_eq_getElem (show i < fs.length by omega)]
  rw [Nat.add_comm 2 i, List.drop_succ_cons, List.drop_succ_cons, h1]
  rfl

set_option maxHeartbeats 1000000 in
set_option maxRecDepth 100000 in
theorem known_calls (g : Nat) (r : RS) (hf : r.fs.length = 16) (h0 : 0 ≤ r.l) (h1 : r.l ≤ 4611686018427387904) (n : Int) (hn : 0 ≤ n) (B : Nat) (w0 w : World) (H : List As) (HM : Mod B w0 (cells g r.cells 127 :: H) w) : Calls Try.prog 64 #[.pointer (some ⟨g, 0, none⟩), .int .i64 n] w fun e w' => e = .returned (.int .u64 (r.known n)) ∧ Mod B w0 (cells g r.cells 127 :: H) w' := by
  by_cases hc : n ≤ r.l - 16
  · go_enter Try.func64, Try.ntmps64
    go_wp2_with (first | go_step3 | ((with_reducible apply sl_want); exact rfl) | ((with_reducible apply sl_load HM); exact rfl; infer_instance; infer_instance; (try simp only [Act.put, List.setIfInBounds_toArray, List.set_cons_zero, List.set_cons_succ])) | ((with_reducible apply sl_store HM); exact rfl; (first | exact Ev.tmp rfl | exact Ev.const); infer_instance; infer_instance; infer_instance; clear HM; (try clear wq); intro wq HM; (try simp only [Act.put, List.setIfInBounds_toArray, List.set_cons_zero, List.set_cons_succ])) | ((with_reducible apply sl_loadR); exact rfl; assumption; (try simp only [Act.put, List.setIfInBounds_toArray, List.set_cons_zero, List.set_cons_succ])))
    refine sl_ret1 rfl (vals_tmp rfl .nil) ⟨?_, HM⟩
    unfold RS.known
    rw [if_pos hc]
  · haveI := seg_ix (.int .i64 r.s) (.int .i64 r.l) r.fs (.int .i64 r.d) hf (n % 16).toNat (by omega)
    have hm : n.tmod 16 = n % 16 := by rw [Int.tmod_eq_emod_of_nonneg hn]
    go_enter Try.func64, Try.ntmps64
    go_wp2_with (first | go_step3 | ((with_reducible apply sl_want); exact rfl) | ((with_reducible apply sl_load HM); exact rfl; infer_instance; infer_instance; (try simp only [Act.put, List.setIfInBounds_toArray, List.set_cons_zero, List.set_cons_succ])) | ((with_reducible apply sl_store HM); exact rfl; (first | exact Ev.tmp rfl | exact Ev.const); infer_instance; infer_instance; infer_instance; clear HM; (try clear wq); intro wq HM; (try simp only [Act.put, List.setIfInBounds_toArray, List.set_cons_zero, List.set_cons_succ])) | ((with_reducible apply sl_loadR); exact rfl; assumption; (try simp only [Act.put, List.setIfInBounds_toArray, List.set_cons_zero, List.set_cons_succ])))
    refine sl_ret1 rfl (vals_tmp rfl .nil) ⟨?_, HM⟩
    unfold RS.known
    rw [if_neg (by omega)]
    rfl

/-- What a function that is handed to Take does: it is asked of one record after the other. -/
structure FnSpec (B : Nat) (w0 : World) (n : FuncId) (caps : Array Value) (J : List Rec → List As → Prop) (ans : Nat → Bool) : Prop where
  run : ∀ (args : Array Value) (w : World), Sem.run Try.prog (callFunc n args) w = .ok (.enter n args) w
  spec : ∀ (w : World) (H G : List As) (done : List Rec) (x : Rec), done.length < 64 → J done G → Mod B w0 (H ++ G) w →
    Calls Try.prog n (#[.agg x.cells.toArray] ++ caps) w fun e w' => e = .returned (.bool (ans done.length)) ∧ ∃ G', J (done ++ [x]) G' ∧ Mod B w0 (H ++ G') w'
/-- The bits of the first k records. -/
def bitsUp (ans : Nat → Bool) : Nat → Int
  | 0 => 0
  | k + 1 => if ans k then bitsUp ans k else bitsUp ans k + 2 ^ k
theorem bitsUp_range (ans : Nat → Bool) : ∀ k, 0 ≤ bitsUp ans k ∧ bitsUp ans k < 2 ^ k
  | 0 => by simp [bitsUp]
  | k + 1 => by
    have := bitsUp_range ans k
    unfold bitsUp
    have e : (2 : Int) ^ (k + 1) = 2 * 2 ^ k := by rw [Int.pow_succ]; omega
    split <;> omega
theorem or_pow {x : Int} {k : Nat} (hk : k < 64) (h0 : 0 ≤ x) (h1 : x < 2 ^ k) : bits .or .u64 x (IntKind.u64.wrap (2 ^ k)) = x + 2 ^ k := by
  obtain ⟨n, rfl⟩ := Int.eq_ofNat_of_zero_le h0
  have hn : n < 2 ^ k := by exact_mod_cast h1
  have hk2 : 2 ^ k ≤ 2 ^ 63 := Nat.pow_le_pow_right (by omega) (by omega)
  have e1 : IntKind.u64.wrap (2 ^ k) = ((2 ^ k : Nat) : Int) := by
    have : ((2 ^ k : Nat) : Int) = (2 : Int) ^ k := by push_cast; rfl
    rw [← this]
    show (((2 ^ k : Nat) : Int) % 18446744073709551616) = _
    omega
  rw [e1]
  have e2 : bits .or .u64 (n : Int) ((2 ^ k : Nat) : Int) = IntKind.u64.wrap ((BitVec.ofInt 64 (n : Int) ||| BitVec.ofInt 64 ((2 ^ k : Nat) : Int)).toNat) := rfl
  rw [e2, BitVec.toNat_or, BitVec.ofInt_natCast, BitVec.ofInt_natCast, BitVec.toNat_ofNat, BitVec.toNat_ofNat, Nat.mod_eq_of_lt (by omega), Nat.mod_eq_of_lt (by omega)]
  have e3 : n ||| 2 ^ k = 2 ^ k + n := by
    have := Nat.two_pow_add_eq_or_of_lt hn 1
    rw [Nat.mul_one] at this
    rw [this, Nat.or_comm]
  rw [e3]
  show (((2 ^ k + n : Nat) : Int) % 18446744073709551616) = _
  push_cast
  have : ((2 ^ k : Nat) : Int) = (2 : Int) ^ k := by push_cast; rfl
  omega
abbrev RS.apply (r : RS) (n bits : Int) : RS := ⟨r.s, n, r.fs.set (n % 16).toNat bits, r.d + 1⟩
theorem put_ix (a b : Value) (fs : List Int) (x : Value) (h : fs.length = 16) (i : Nat) (hi : i < 16) (y : Int) : PutAt (a :: b :: (u64s fs ++ [x])) (2 + i) [.int .u64 y] (a :: b :: (u64s (fs.set i y) ++ [x])) := by
  refine ⟨⟨?_, by simp; omega⟩⟩
  rw [Nat.add_comm 2 i, show i + 2 + [Value.int .u64 y].length = (i + 1) + 2 from rfl]
  simp only [List.take_succ_cons, List.drop_succ_cons, List.cons_append]
  have h1 : u64s (fs.set i y) ++ [x] = (u64s fs ++ [x]).set i (.int .u64 y) := by
    rw [List.set_append, if_pos (by simp; omega), u64s, List.map_set]
  rw [h1, List.set_eq_take_append_cons_drop, if_pos (by simp; omega)]
  simp
set_option maxHeartbeats 1000000 in
set_option maxRecDepth 100000 in
theorem apply_calls (B : Nat) (w0 : World) (fn : FuncId) (caps : Array Value) (J : List Rec → List As → Prop) (ans : Nat → Bool) (hfn : FnSpec B w0 fn caps J ans) (g : Nat) (r : RS) (hf : r.fs.length = 16) (h0 : 0 ≤ r.d) (h1 : r.d ≤ 1000000)
    (s n : Int) (l : List Rec) (A : Option Addr) (c : Nat) (hn : 0 ≤ n) (hl : l.length ≤ 64) (w : World) (H G : List As) (hJ : J [] G)
    (hr : ∀ w, Mod B w0 H w → Reads w A (recs l)) (HM : Mod B w0 (cells g r.cells 127 :: (H ++ G)) w) :
    Calls Try.prog 63 #[.pointer (some ⟨g, 0, none⟩), .agg #[.int .i64 s, .int .i64 n, .slice A l.length c], .func (.func fn) #[] caps] w fun e w' => e = .returned (.tuple #[]) ∧ ∃ G', J l G' ∧ Mod B w0 (cells g (r.apply n (bitsUp ans l.length)).cells 127 :: (H ++ G')) w' := by
  have HR := Aside0.mk hr
  have HN := Aside0.mk hfn
  clear hr hfn
  go_enter Try.func63, Try.ntmps63
  go_wp2_with (first | go_step3 | ((with_reducible apply sl_want); exact rfl) | ((with_reducible apply sl_load HM); exact rfl; infer_instance; infer_instance; (try simp only [Act.put, List.setIfInBounds_toArray, List.set_cons_zero, List.set_cons_succ])) | ((with_reducible apply sl_store HM); exact rfl; (first | exact Ev.tmp rfl | exact Ev.const); infer_instance; infer_instance; infer_instance; clear HM; (try clear wq); intro wq HM; (try simp only [Act.put, List.setIfInBounds_toArray, List.set_cons_zero, List.set_cons_succ])) | ((with_reducible apply sl_loadR); exact rfl; assumption; (try simp only [Act.put, List.setIfInBounds_toArray, List.set_cons_zero, List.set_cons_succ])) | ((with_reducible refine gate_dst (N := 4) rfl ?_); (with_reducible apply sl_box HM); (first | exact Ev.tmp rfl | exact Ev.const); exact rfl; clear HM; (try clear wq); intro g4 wq HM; (try simp only [Act.put, List.setIfInBounds_toArray, List.set_cons_zero, List.set_cons_succ])) | ((with_reducible refine gate_dst (N := 8) rfl ?_); (with_reducible apply sl_alloc HM); infer_instance; clear HM; (try clear wq); intro g8 wq HM; (try simp only [Act.put, List.setIfInBounds_toArray, List.set_cons_zero, List.set_cons_succ])))
  go_loopw [6, 12] (fun v6 v12 wr => ∃ k : Nat, v12 = .int .i64 k ∧ k ≤ l.length ∧ v6 = .int .u64 (bitsUp ans k) ∧ ∃ G', J (l.take k) G' ∧ Aside0 (Mod B w0 (cells g4 [.int .i64 s, .int .i64 n, .slice A l.length c] 61 :: cells g r.cells 127 :: (H ++ G')) wr)) (fun _ v12 _ => l.length - (intOf v12).toNat)
  case atStart => exact ⟨0, rfl, by omega, rfl, G, hJ, ⟨HM⟩⟩
  case round =>
    obtain ⟨k, rfl, hk, rfl, G', hJ', HM0⟩ := hrel
    clear HM
    have HM := HM0.out
    clear HM0
    by_cases hlt : k < l.length
    · have hr := HR.out _ HM.sub
      obtain ⟨ad, rfl⟩ := hr.addr (by rw [flat_len rec_len]; omega)
      obtain ⟨x, hrk⟩ : ∃ r, l[k]? = some r := ⟨_, List.getElem?_eq_getElem hlt⟩
      have hld := Aside0.mk (load_seg (P := Try.prog) (t := 53) hr (k * 8) (flat_seg rec_len l k x hrk) (rec_len x))
      have HK := Aside0.mk hrk
      clear hrk hr
      have hk64 : (l.take k).length < 64 := by rw [List.length_take]; omega
      cases ha : ans k with
      | true =>
        go_wp2_with (first | (rw [HN.out.run, Oper.upon_enter]; refine (HN.out.spec _ _ _ _ _ hk64 hJ' (HM.split G')).mono ?_; rintro e wq ⟨rfl, G2, hJ2, HM1⟩; clear HM; have HM := HM1; clear HM1; simp only [List.cons_append] at HM; rw [show (l.take k).length = k from by rw [List.length_take]; omega, ha]; dsimp only) | go_step3 | ((with_reducible apply sl_want); exact rfl) | ((with_reducible apply sl_load HM); exact rfl; infer_instance; infer_instance; (try simp only [Act.put, List.setIfInBounds_toArray, List.set_cons_zero, List.set_cons_succ])) | ((with_reducible apply sl_store HM); exact rfl; (first | exact Ev.tmp rfl | exact Ev.const); infer_instance; infer_instance; infer_instance; clear HM; (try clear wq); intro wq HM; (try simp only [Act.put, List.setIfInBounds_toArray, List.set_cons_zero, List.set_cons_succ])) | ((with_reducible apply sl_loadR); exact rfl; assumption; (try simp only [Act.put, List.setIfInBounds_toArray, List.set_cons_zero, List.set_cons_succ])) | ((with_reducible refine gate_dst (N := 4) rfl ?_); (with_reducible apply sl_box HM); (first | exact Ev.tmp rfl | exact Ev.const); exact rfl; clear HM; (try clear wq); intro g4 wq HM; (try simp only [Act.put, List.setIfInBounds_toArray, List.set_cons_zero, List.set_cons_succ])) | ((with_reducible refine gate_dst (N := 8) rfl ?_); (with_reducible apply sl_alloc HM); infer_instance; clear HM; (try clear wq); intro g8 wq HM; (try simp only [Act.put, List.setIfInBounds_toArray, List.set_cons_zero, List.set_cons_succ])))
        have e1 : l.take k ++ [x] = l.take (k + 1) := by rw [List.take_add_one, HK.out]; rfl
        rw [e1] at hJ2
        exact ⟨⟨k + 1, rfl, hlt, by simp only [bitsUp, ha, if_true], _, hJ2, ⟨HM.sub⟩⟩, by simp only [intOf]; omega⟩
      | false =>
        go_wp2_with (first | (rw [HN.out.run, Oper.upon_enter]; refine (HN.out.spec _ _ _ _ _ hk64 hJ' (HM.split G')).mono ?_; rintro e wq ⟨rfl, G2, hJ2, HM1⟩; clear HM; have HM := HM1; clear HM1; simp only [List.cons_append] at HM; rw [show (l.take k).length = k from by rw [List.length_take]; omega, ha]; dsimp only) | go_step3 | ((with_reducible apply sl_want); exact rfl) | ((with_reducible apply sl_load HM); exact rfl; infer_instance; infer_instance; (try simp only [Act.put, List.setIfInBounds_toArray, List.set_cons_zero, List.set_cons_succ])) | ((with_reducible apply sl_store HM); exact rfl; (first | exact Ev.tmp rfl | exact Ev.const); infer_instance; infer_instance; infer_instance; clear HM; (try clear wq); intro wq HM; (try simp only [Act.put, List.setIfInBounds_toArray, List.set_cons_zero, List.set_cons_succ])) | ((with_reducible apply sl_loadR); exact rfl; assumption; (try simp only [Act.put, List.setIfInBounds_toArray, List.set_cons_zero, List.set_cons_succ])) | ((with_reducible refine gate_dst (N := 4) rfl ?_); (with_reducible apply sl_box HM); (first | exact Ev.tmp rfl | exact Ev.const); exact rfl; clear HM; (try clear wq); intro g4 wq HM; (try simp only [Act.put, List.setIfInBounds_toArray, List.set_cons_zero, List.set_cons_succ])) | ((with_reducible refine gate_dst (N := 8) rfl ?_); (with_reducible apply sl_alloc HM); infer_instance; clear HM; (try clear wq); intro g8 wq HM; (try simp only [Act.put, List.setIfInBounds_toArray, List.set_cons_zero, List.set_cons_succ])))
        have e1 : l.take k ++ [x] = l.take (k + 1) := by rw [List.take_add_one, HK.out]; rfl
        rw [e1] at hJ2
        refine ⟨⟨k + 1, rfl, hlt, ?_, _, hJ2, ⟨HM.sub⟩⟩, by simp only [intOf]; omega⟩
        have hb := bitsUp_range ans k
        rw [or_pow (by omega) hb.1 hb.2]
        simp only [bitsUp, ha, Bool.false_eq_true, if_false]
    · have hkl : k = l.length := by omega
      subst hkl
      rw [List.take_length] at hJ'
      clear hlt hk
      have hm : n.tmod 16 = n % 16 := by rw [Int.tmod_eq_emod_of_nonneg hn]
      haveI := put_ix (.int .i64 r.s) (.int .i64 n) r.fs (.int .i64 r.d) hf (n % 16).toNat (by omega) (bitsUp ans l.length)
      haveI := seg_end (u64s (r.fs.set (n % 16).toNat (bitsUp ans l.length))) (.int .i64 r.d) (by simpa using hf)
      haveI := put_end (u64s (r.fs.set (n % 16).toNat (bitsUp ans l.length))) (.int .i64 r.d) (.int .i64 (r.d + 1)) (by simpa using hf)
      go_wp2_with (first | go_step3 | ((with_reducible apply sl_want); exact rfl) | ((with_reducible apply sl_load HM); exact rfl; infer_instance; infer_instance; (try simp only [Act.put, List.setIfInBounds_toArray, List.set_cons_zero, List.set_cons_succ])) | ((with_reducible apply sl_store HM); exact rfl; (first | exact Ev.tmp rfl | exact Ev.const); infer_instance; infer_instance; infer_instance; clear HM; (try clear wq); intro wq HM; (try simp only [Act.put, List.setIfInBounds_toArray, List.set_cons_zero, List.set_cons_succ])) | ((with_reducible apply sl_loadR); exact rfl; assumption; (try simp only [Act.put, List.setIfInBounds_toArray, List.set_cons_zero, List.set_cons_succ])) | ((with_reducible refine gate_dst (N := 4) rfl ?_); (with_reducible apply sl_box HM); (first | exact Ev.tmp rfl | exact Ev.const); exact rfl; clear HM; (try clear wq); intro g4 wq HM; (try simp only [Act.put, List.setIfInBounds_toArray, List.set_cons_zero, List.set_cons_succ])) | ((with_reducible refine gate_dst (N := 8) rfl ?_); (with_reducible apply sl_alloc HM); infer_instance; clear HM; (try clear wq); intro g8 wq HM; (try simp only [Act.put, List.setIfInBounds_toArray, List.set_cons_zero, List.set_cons_succ])))
      refine wp_drawnS HM [10] [(0, 1), (1, 1), (2, 1), (3, 1), (4, 0), (5, 1), (6, 1), (7, 1), (8, 1), (9, 1), (10, 3)] (by kernel_rfl) (by kernel_rfl) (by kernel_rfl) (by kernel_rfl) (fun _ _ d _ _ h => by cases d <;> exact h) ?_; clear HM; (try clear wq); intro wq HM
      repeat (first | ((with_reducible apply t_move); exact rfl; exact rfl; (first | exact Ev.tmp rfl | exact Ev.const); (try simp only [Act.put, List.setIfInBounds_toArray, List.set_cons_zero, List.set_cons_succ])) | ((with_reducible apply t_assign); exact rfl; exact rfl; (first | exact Ev.tmp rfl | exact Ev.const); (try simp only [Act.put, List.setIfInBounds_toArray, List.set_cons_zero, List.set_cons_succ])) | ((with_reducible apply t_load HM); exact rfl; exact rfl; exact rfl; infer_instance; infer_instance; infer_instance; (try simp only [Act.put, List.setIfInBounds_toArray, List.set_cons_zero, List.set_cons_succ])) | ((with_reducible apply t_skip); exact rfl; exact rfl; (try simp only [Act.put, List.setIfInBounds_toArray, List.set_cons_zero, List.set_cons_succ])) | ((with_reducible apply t_skip0 HM); exact rfl; exact rfl; infer_instance; (try simp only [Act.put, List.setIfInBounds_toArray, List.set_cons_zero, List.set_cons_succ])) | ((with_reducible apply t_skip2 HM); exact rfl; exact rfl; infer_instance; (try simp only [Act.put, List.setIfInBounds_toArray, List.set_cons_zero, List.set_cons_succ])) | ((with_reducible apply t_pure); exact rfl; exact rfl; (focus (intro wv; go_simp; (try (go_ints; (try go_simp))); (first | done | rfl | (rw [if_pos (by omega)]; done)))); (try simp only [Act.put, List.setIfInBounds_toArray, List.set_cons_zero, List.set_cons_succ])) | ((with_reducible apply t_eff); exact rfl; exact rfl; intro K hK; (with_reducible apply ow_store HM); exact rfl; (first | exact Ev.tmp rfl | exact Ev.const); infer_instance; infer_instance; infer_instance; clear HM; (try clear wq); intro  wq HM; refine hK _ _ _ HM inferInstance ?_; clear hK K; (try simp only [Act.put, List.setIfInBounds_toArray, List.set_cons_zero, List.set_cons_succ])) | ((with_reducible apply t_last); exact rfl; exact rfl; intro K hK; (with_reducible apply ow_store HM); exact rfl; (first | exact Ev.tmp rfl | exact Ev.const); infer_instance; infer_instance; infer_instance; clear HM; (try clear wq); intro  wq HM; refine hK _ _ ?_; clear hK K; (try simp only [Act.put, List.setIfInBounds_toArray, List.set_cons_zero, List.set_cons_succ])))
      refine t_nil ?_
      go_wp2_with (first | go_step3 | ((with_reducible apply sl_want); exact rfl) | ((with_reducible apply sl_load HM); exact rfl; infer_instance; infer_instance; (try simp only [Act.put, List.setIfInBounds_toArray, List.set_cons_zero, List.set_cons_succ])) | ((with_reducible apply sl_store HM); exact rfl; (first | exact Ev.tmp rfl | exact Ev.const); infer_instance; infer_instance; infer_instance; clear HM; (try clear wq); intro wq HM; (try simp only [Act.put, List.setIfInBounds_toArray, List.set_cons_zero, List.set_cons_succ])) | ((with_reducible apply sl_loadR); exact rfl; assumption; (try simp only [Act.put, List.setIfInBounds_toArray, List.set_cons_zero, List.set_cons_succ])) | ((with_reducible refine gate_dst (N := 4) rfl ?_); (with_reducible apply sl_box HM); (first | exact Ev.tmp rfl | exact Ev.const); exact rfl; clear HM; (try clear wq); intro g4 wq HM; (try simp only [Act.put, List.setIfInBounds_toArray, List.set_cons_zero, List.set_cons_succ])) | ((with_reducible refine gate_dst (N := 8) rfl ?_); (with_reducible apply sl_alloc HM); infer_instance; clear HM; (try clear wq); intro g8 wq HM; (try simp only [Act.put, List.setIfInBounds_toArray, List.set_cons_zero, List.set_cons_succ])))
      exact bodyPost_end (results_none rfl _ _ _) rfl ⟨rfl, G', hJ', HM.sub⟩

end Go.Proofs.Ytghfoooldcbdnaa
