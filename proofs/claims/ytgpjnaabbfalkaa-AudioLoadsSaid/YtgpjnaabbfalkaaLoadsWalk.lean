/- AudioLoads: for every two slices of bytes and every pitch the call returns true: loading replaces the whole pattern and keeps the pitch; tuning keeps the pattern; the bytes are not modified. -/
import Derived.Test.YtgpjnaabbfalkaaAwake
import Derived.Test.YtgpjnaabbfalkaaRefFact
import Derived.Outline
namespace Go.Proofs.Ytgpjnaabbfalkaa
open Go.RowKit Go.Proofs.YtgpjnaabbfalkaaW.PrintWords Go.Proofs.YtgpjnaabbfalkaaW.PrintLast Go.Proofs.YtgpjnaabbfalkaaW.PrintMore
open Go.Proofs.Ytgpjnaabbfalkaa.PAudioMatchesReference
set_option linter.unusedSimpArgs false
set_option linter.unusedVariables false
theorem info5z : (Try.prog.info? 5).map (fun i => (i.zero, i.size, i.bytes)) = some (some (.int .u8 0), 1, 1) := by kernel_rfl
theorem field_run (cs : Array Value) (w : World) : (Instr.field 26 (.agg cs) 0).run Try.prog w = .ok (.agg (cs.extract 0 16)) w := by kernel_rfl
theorem pat_extract (F : List Int) (hF : F.length = 16) (p : Int) : (auC F p).extract 0 16 = pat F := by
  apply Array.ext'
  simp [auC, pat, hF]
theorem field_pat (F : List Int) (hF : F.length = 16) (p : Int) (w : World) : (Instr.field 26 (.agg (auC F p)) 0).run Try.prog w = .ok (.agg (pat F)) w := by
  rw [← pat_extract F hF p]
  exact field_run _ w
def al6.T : Bool × List (List Nat × List Nat) := (true, [([], []), ([0], [0]), ([], []), ([1, 2], [1, 2]), ([3], [3]), ([4], [4]), ([5, 4], [4, 5]), ([4, 4], [4]), ([4], [4]), ([7, 8, 7, 4], [4, 7, 8]), ([9, 4], [4, 9]), ([6, 10, 4], [4, 6, 10]), ([4, 11], [4, 11]), ([12, 9], [12]), ([13], [13]), ([14, 13, 13], [13, 14]), ([15, 13], [13, 15]), ([13], [13]), ([17, 13], [13, 17]), ([16, 18, 13], [13, 16, 18]), ([13, 19], [13, 19]), ([20, 15], [20]), ([21], [21]), ([21], [21]), ([22, 23, 21, 21], [21, 22, 23]), ([21, 24], [21, 24]), ([25, 24, 0, 1, 2, 3, 4, 5, 6, 7, 8, 9, 10, 11, 12, 13, 14, 15, 16, 17, 18, 19, 20, 21, 22, 23, 24, 25], [25])])
def al6.B : List Nat := [0, 1, 0, 7, 15, 31, 63, 31, 31, 415, 927, 2047, 4095, 8191, 16383, 32767, 65535, 16383, 147455, 524287, 1048575, 2097151, 4194303, 4194303, 16777215, 33554431, 67108863]
theorem al6.tab : rtab .any (opsOf Try.f3 6) = al6.T := by kernel_rfl
theorem al6.bits : waitsOk al6.T.2 al6.B = true := by kernel_rfl

set_option maxRecDepth 100000 in
set_option maxHeartbeats 4000000 in
theorem loads_walk (A0 : Option Addr) (cap0 : Nat) (bs0 : List Int) (A1 : Option Addr) (cap1 : Nat) (bs1 : List Int) (q : Int) (w : World) (hr0 : Kd.C (Kd.int .u8) w A0 bs0.length bs0) (hc0 : bs0.length ≤ cap0) (hb0 : ∀ x ∈ bs0, 0 ≤ x ∧ x ≤ 255) (hr1 : Kd.C (Kd.int .u8) w A1 bs1.length bs1) (hc1 : bs1.length ≤ cap1) (hb1 : ∀ x ∈ bs1, 0 ≤ x ∧ x ≤ 255) (hq : 0 ≤ q ∧ q ≤ 255) :
    Calls Try.prog 3 #[.slice A0 bs0.length cap0, .slice A1 bs1.length cap1, .int .u8 q] w fun e w' => e = .returned (.bool true) ∧ Below w.heap.size w w' := by
  have HB := Aside0.mk (Below.refl w.heap.size w)
  have hx0 : bs0.length ≤ 9223372036854775807 := hr0.2.1
  have hx1 : bs1.length ≤ 9223372036854775807 := hr1.2.1
  by_cases hlen : bs0.length ≤ 1000
  · have hlb : decide (1000 < (bs0.length : Int)) = false := decide_eq_false (by omega)
    by_cases hlen1 : bs1.length ≤ 1000
    · have hlb1 : decide (1000 < (bs1.length : Int)) = false := decide_eq_false (by omega)
      have HRC1 := Aside0.mk hr1
      have HCAP1 := Aside0.mk hc1
      have SAME := Aside0.mk (same_tells bs1 hx1)
      have L0 := fill_length bs0
      have L1 := fill_length bs1
      have NC := Lib.hid new_calls
      have LC0 := Lib.hid (fun w' (h : Below w.heap.size w w') => load_any (List.replicate 16 0) (by simp) 64 A0 cap0 bs0 w' (Kd.C_below hr0 h))
      have LC1 := Lib.hid (fun w' (h : Below w.heap.size w w') => load_any (List.replicate 16 0) (by simp) 64 A1 cap1 bs1 w' (Kd.C_below hr1 h))
      have T0 := Lib.hid (tune_calls (fill bs0) L0 64 q)
      have LY := Lib.hid (fun A2 c2 w' (h : Kd.C (Kd.int .u8) w' A2 bs1.length bs1) => load_any (fill bs0) L0 q A2 c2 bs1 w' h)
      have TY := Lib.hid (tune_calls (fill bs1) L1 q 1)
      have I0 : Hid ((Try.prog.info? 26).map (·.size) = some (auC (fill bs0) q).size) := by rw [auC_size L0]; exact info26
      have SZ0 := Lib.hid (auC_size L0 q)
      have O0 := Lib.hid (auC_one (fill bs0) q)
      have IY : Hid ((Try.prog.info? 26).map (·.size) = some (auC (fill bs1) q).size) := by rw [auC_size L1]; exact info26
      have SZY := Lib.hid (auC_size L1 q)
      have OY := Lib.hid (auC_one (fill bs1) q)
      have PQ := Lib.hid (auC_pitch L1 q)
      have PIY := Lib.hid (pat_in (F := fill bs1) q)
      have IP1 : Hid ((Try.prog.info? 24).map (·.size) = some (pat (fill bs1)).size) := by rw [pat_size L1]; exact info24
      have HE : ∀ w, (Op.equalIn 10000 24 (.agg (pat (fill bs1))) (.agg (pat (fill bs1)))).run Try.prog w = .ok true w := fun w => (eq24 (fill bs1) (fill bs1) L1 L1 w).trans (by simp)
      have FLD := fun (p : Int) (w : World) => field_pat (fill bs1) L1 p w
      have FL1 := Lib.hid (FLD 64)
      have FL2 := Lib.hid (FLD 1)
      clear FLD
      obtain ⟨ns, hns⟩ : ∃ ns, auC (List.replicate 16 0) 64 = ns := ⟨_, rfl⟩
      rw [hns] at NC LC0 LC1
      obtain ⟨cs0, hcs0⟩ : ∃ cs, auC (fill bs0) 64 = cs := ⟨_, rfl⟩
      rw [hcs0] at LC0 T0
      obtain ⟨cq0, hcq0⟩ : ∃ cs, auC (fill bs0) q = cs := ⟨_, rfl⟩
      rw [hcq0] at T0 LY I0 SZ0 O0
      obtain ⟨csy, hcsy⟩ : ∃ cs, auC (fill bs1) q = cs := ⟨_, rfl⟩
      rw [hcsy] at LY TY IY SZY OY PQ PIY
      obtain ⟨cs1, hcs1⟩ : ∃ cs, auC (fill bs1) 64 = cs := ⟨_, rfl⟩
      rw [hcs1] at LC1 FL1
      obtain ⟨cst, hcst⟩ : ∃ cs, auC (fill bs1) 1 = cs := ⟨_, rfl⟩
      rw [hcst] at TY FL2
      obtain ⟨P1, hP1⟩ : ∃ cs, pat (fill bs1) = cs := ⟨_, rfl⟩
      rw [hP1] at PIY IP1 HE FL1 FL2
      have HEE := Lib.hid HE
      clear hr0 hr1 hc0 hc1 hns hcs0 hcq0 hcsy hcs1 hcst hP1 HE hlen hb0 hb1 L0 L1
      go_enter Try.func3, Try.ntmps3
      go_wp2_with (first
        | (go_at_call 7; with_reducible refine (awake_calls _).mono ?_; rintro e w1 ⟨rfl, hb⟩; have nB_ := Aside0.mk (below_step (by repeat (first | (with_reducible first | exact HB.out | apply below_alloc | apply pw_below_drewN | apply below_drew1) | exact HB.out)) hb); clear HB hb; have HB := nB_; clear nB_)
        | ((with_reducible refine gate_dst (N := 23) rfl ?_); refine Kd.R_lit (Kd.int .u8) (w0 := w) w.heap.size 5 rfl (N := 23) rfl (xs := ([] : List Int)) (inner := []) (okp := fun _ => True) (ok := fun _ => True) (by first | (go_simp; done) | (go_simp; rfl)) (Reps.none _ _) (fun _ h => h) trivial (by repeat (first | (with_reducible first | exact HB.out | apply below_alloc | apply pw_below_drewN | apply below_drew1) | exact HB.out)) (below_size (by repeat (first | (with_reducible first | exact HB.out | apply below_alloc | apply pw_below_drewN | apply below_drew1) | exact HB.out))) (by simp) ?_; intro v23 w1 ho hb hg hat; clear hg hat HB; have HB := Aside0.mk hb; have HO23 := Aside0.mk ho; clear ho hb)
        | ((with_reducible refine gate_builtin (b := .append) (xs := #[.tmp 23, .tmp 24]) rfl ?_); at_builtin; refine Kd.R_append_rows (Kd.int .u8) (w0 := w) w.heap.size rfl (.tmp 23) (.tmp 24) 22 5 (.int .u8 0) 1 rfl Try.underlying22 info5z rfl (by decide) (by omega) v23 ([] : List Int) bs1 _ _ _ (fun _ => True) (fun _ => False) rfl rfl ?aO ?aR (fun _ _ h => h) (fun _ h => h.elim) ?aF ?aB ?aS ?aL ?_; (case aO => exact HO23.out); (case aR => exact Kd.C_below HRC1.out HB.out); (case aF => exact (fun _ _ => trivial)); (case aB => exact (by repeat (first | (with_reducible first | exact HB.out | apply below_alloc | apply pw_below_drewN | apply below_drew1) | exact HB.out))); (case aS => exact (below_size (by repeat (first | (with_reducible first | exact HB.out | apply below_alloc | apply pw_below_drewN | apply below_drew1) | exact HB.out)))); (case aL => simp only [List.length_nil]; omega); intro v25 wd ho hb hg hat; clear hg hat HB; have HB := Aside0.mk hb; rw [List.nil_append] at ho; obtain ⟨A2, c2, rfl⟩ := Kd.R_slice ho; have HC2 := Aside0.mk (Kd.R_reads' ho).2.2; have LE2 := Aside0.mk (Kd.R_reads' ho).2.1; have HD := Aside0.mk (Below.refl wd.heap.size wd); clear ho hb HO23)
        | (go_at_call 10; with_reducible refine (NC.out _).mono ?_; rintro e w1 ⟨rfl, hb⟩; have nB_ := Aside0.mk (below_step (by repeat (first | (with_reducible first | exact HB.out | apply below_alloc | apply pw_below_drewN | apply below_drew1) | exact HB.out)) hb); have nD_ := Aside0.mk (below_step (by repeat (first | (with_reducible first | exact HD.out | apply below_alloc | apply pw_below_drewN | apply below_drew1) | exact HD.out)) hb); clear HB HD hb; have HB := nB_; clear nB_; have HD := nD_; clear nD_)
        | (go_at_call 9; with_reducible refine (LC0.out _ HB.out).mono ?_; rintro e w1 ⟨rfl, hb⟩; have nB_ := Aside0.mk (below_step (by repeat (first | (with_reducible first | exact HB.out | apply below_alloc | apply pw_below_drewN | apply below_drew1) | exact HB.out)) hb); have nD_ := Aside0.mk (below_step (by repeat (first | (with_reducible first | exact HD.out | apply below_alloc | apply pw_below_drewN | apply below_drew1) | exact HD.out)) hb); clear HB HD hb; have HB := nB_; clear nB_; have HD := nD_; clear nD_)
        | (go_at_call 8; with_reducible refine (T0.out _).mono ?_; rintro e w1 ⟨rfl, hb⟩; have nB_ := Aside0.mk (below_step (by repeat (first | (with_reducible first | exact HB.out | apply below_alloc | apply pw_below_drewN | apply below_drew1) | exact HB.out)) hb); have nD_ := Aside0.mk (below_step (by repeat (first | (with_reducible first | exact HD.out | apply below_alloc | apply pw_below_drewN | apply below_drew1) | exact HD.out)) hb); clear HB HD hb; have HB := nB_; clear nB_; have HD := nD_; clear nD_)
        | ((with_reducible refine gate_dst (N := 8) rfl ?_); refine box_event ?hg (N := 8) ?hd (cs := #[Value.int .u8 0, Value.int .u8 0, Value.int .u8 0, Value.int .u8 0, Value.int .u8 0, Value.int .u8 0, Value.int .u8 0, Value.int .u8 0, Value.int .u8 0, Value.int .u8 0, Value.int .u8 0, Value.int .u8 0, Value.int .u8 0, Value.int .u8 0, Value.int .u8 0, Value.int .u8 0, Value.int .u8 0]) (t := 26) ?hr ?_; (case hd => rfl); (case hg => rfl); (case hr => first | (go_simp; done) | (go_simp; rfl)); intro g0 hg w1 hbox hb; have GEB0 := Aside0.mk ((by rw [hg]; exact (below_size (by repeat (first | (with_reducible first | exact HB.out | apply below_alloc | apply pw_below_drewN | apply below_drew1) | exact HB.out)))) : w.heap.size ≤ g0); have GED0 := Aside0.mk ((by rw [hg]; exact (below_size (by repeat (first | (with_reducible first | exact HD.out | apply below_alloc | apply pw_below_drewN | apply below_drew1) | exact HD.out)))) : wd.heap.size ≤ g0); clear hg; have nB_ := Aside0.mk (below_step (by repeat (first | (with_reducible first | exact HB.out | apply below_alloc | apply pw_below_drewN | apply below_drew1) | exact HB.out)) hb); have nD_ := Aside0.mk (below_step (by repeat (first | (with_reducible first | exact HD.out | apply below_alloc | apply pw_below_drewN | apply below_drew1) | exact HD.out)) hb); clear HB HD hb; have HB := nB_; clear nB_; have HD := nD_; clear nD_; have BK0 := Aside0.mk hbox; clear hbox)
        | ((with_reducible refine gate_store (t := 26) (p := 8) (v := .tmp 30) rfl ?_); refine wpList_store_row rfl 26 (.tmp 8) (.tmp 30) rfl g0 (cq0) rfl rfl 26 _ BK0.out I0.out (by rw [SZ0.out]; rfl) O0.out ?_; have n1_ := Aside0.mk (setRow_heap _ _ _ (cq0) _ _ BK0.out); have nB_ := Aside0.mk (below_setRow HB.out GEB0.out (cq0)); have nD_ := Aside0.mk (below_setRow HD.out GED0.out (cq0)); clear BK0 HB HD; generalize World.setRow _ _ _ = w1 at n1_ nB_ nD_ ⊢; have BK0 := n1_; clear n1_; have HB := nB_; clear nB_; have HD := nD_; clear nD_)
        | ((with_reducible refine gate_dst (N := 31) rfl ?_); (try (refine gate_guard (by rfl) ?_; dsimp only)); refine wpList_load_row rfl 26 (.tmp 8) rfl g0 rfl 26 (cq0) (0, 0) _ BK0.out Try.underlying26 rfl I0.out ?_)
        | (go_at_call 9; with_reducible refine (LY.out _ _ _ (Kd.C_below HC2.out HD.out)).mono ?_; rintro e w1 ⟨rfl, hb⟩; have nB_ := Aside0.mk (below_step (by repeat (first | (with_reducible first | exact HB.out | apply below_alloc | apply pw_below_drewN | apply below_drew1) | exact HB.out)) hb); have nD_ := Aside0.mk (below_step (by repeat (first | (with_reducible first | exact HD.out | apply below_alloc | apply pw_below_drewN | apply below_drew1) | exact HD.out)) hb); have nr0_ := Aside0.mk (blk_below (by (with_reducible repeat (first | refine blk_drewN ?_ _ | refine blk_drew ?_ | refine blk_alloc ?_ _)); exact BK0.out) hb); clear HB HD hb; have HB := nB_; clear nB_; have HD := nD_; clear nD_; clear BK0; have BK0 := nr0_; clear nr0_)
        | ((with_reducible refine gate_dst (N := 9) rfl ?_); refine box_event ?hg (N := 9) ?hd (cs := #[Value.int .u8 0, Value.int .u8 0, Value.int .u8 0, Value.int .u8 0, Value.int .u8 0, Value.int .u8 0, Value.int .u8 0, Value.int .u8 0, Value.int .u8 0, Value.int .u8 0, Value.int .u8 0, Value.int .u8 0, Value.int .u8 0, Value.int .u8 0, Value.int .u8 0, Value.int .u8 0, Value.int .u8 0]) (t := 26) ?hr ?_; (case hd => rfl); (case hg => rfl); (case hr => first | (go_simp; done) | (go_simp; rfl)); intro g1 hg w1 hbox hb; have GEB1 := Aside0.mk ((by rw [hg]; exact (below_size (by repeat (first | (with_reducible first | exact HB.out | apply below_alloc | apply pw_below_drewN | apply below_drew1) | exact HB.out)))) : w.heap.size ≤ g1); have GED1 := Aside0.mk ((by rw [hg]; exact (below_size (by repeat (first | (with_reducible first | exact HD.out | apply below_alloc | apply pw_below_drewN | apply below_drew1) | exact HD.out)))) : wd.heap.size ≤ g1); have NE1_0 := Aside0.mk ((by rw [hg]; exact Nat.ne_of_lt (blk_lt (by (with_reducible repeat (first | refine blk_drewN ?_ _ | refine blk_drew ?_ | refine blk_alloc ?_ _)); exact BK0.out))) : g0 ≠ g1); clear hg; have nB_ := Aside0.mk (below_step (by repeat (first | (with_reducible first | exact HB.out | apply below_alloc | apply pw_below_drewN | apply below_drew1) | exact HB.out)) hb); have nD_ := Aside0.mk (below_step (by repeat (first | (with_reducible first | exact HD.out | apply below_alloc | apply pw_below_drewN | apply below_drew1) | exact HD.out)) hb); have nr0_ := Aside0.mk (blk_below (by (with_reducible repeat (first | refine blk_drewN ?_ _ | refine blk_drew ?_ | refine blk_alloc ?_ _)); exact BK0.out) hb); clear HB HD hb; have HB := nB_; clear nB_; have HD := nD_; clear nD_; clear BK0; have BK0 := nr0_; clear nr0_; have BK1 := Aside0.mk hbox; clear hbox)
        | ((with_reducible refine gate_store (t := 26) (p := 9) (v := .tmp 33) rfl ?_); refine wpList_store_row rfl 26 (.tmp 9) (.tmp 33) rfl g1 (csy) rfl rfl 26 _ BK1.out IY.out (by rw [SZY.out]; rfl) OY.out ?_; have n1_ := Aside0.mk (setRow_heap _ _ _ (csy) _ _ BK1.out); have nB_ := Aside0.mk (below_setRow HB.out GEB1.out (csy)); have nD_ := Aside0.mk (below_setRow HD.out GED1.out (csy)); have nr0_ := Aside0.mk ((setRow_other _ _ _ (csy) NE1_0.out).trans BK0.out); clear BK1 HB HD BK0; generalize World.setRow _ _ _ = w1 at n1_ nB_ nD_ nr0_ ⊢; have BK1 := n1_; clear n1_; have HB := nB_; clear nB_; have HD := nD_; clear nD_; have BK0 := nr0_; clear nr0_))
      have HE := HEE.out
      have F1 := FL1.out
      have F2 := FL2.out
      refine start2 (n := 27) #[false, false, false, false, false, false, false, false, false, false, false, false, false, false, false, false, false, false, false, false, false, false, false, false, false, false, false] (by kernel_rfl) rfl rfl (fun W0 hW0 hHeld => ?_)
      have Z0 : Aside0 (W0.heap[g1]? = some (.cells csy 26 (0, 0))) := ⟨by rw [hW0]; exact blk_drew BK1.out⟩
      have ZB : Aside0 (Below w.heap.size w W0) := ⟨by rw [hW0]; exact below_drew1 HB.out⟩
      have ZD : Aside0 (Below wd.heap.size wd W0) := ⟨by rw [hW0]; exact below_drew1 HD.out⟩
      clear hW0 BK1 HB BK0
      refine with_tabW al6.tab al6.bits (fun HT_ HW_ => ?_)
      refine pure_ (i := 0) (N := some 34) (v := ?_) (a' := ?_) #[true, false, false, false, false, false, false, false, false, false, false, false, false, false, false, false, false, false, false, false, false, false, false, false, false, false, false] rfl rfl (any_of HT_.out (by kernel_rfl)) (fun _ _ _ h => h) (Or.inl ⟨by rfl, ?_⟩) ?_ ?_
      rotate_left
      · intro w'
        go_simp
        with_reducible rfl
      rotate_left
      · simp only [Act.put, List.setIfInBounds_toArray, List.set_cons_zero, List.set_cons_succ, i64_w, i32_w]
        rfl
      refine pure_ (i := 2) (N := some 36) (v := ?_) (a' := ?_) #[true, false, true, false, false, false, false, false, false, false, false, false, false, false, false, false, false, false, false, false, false, false, false, false, false, false, false] rfl rfl (any_of HT_.out (by kernel_rfl)) (fun _ _ _ h => h) (Or.inl ⟨by rfl, ?_⟩) ?_ ?_
      rotate_left
      · intro w'
        go_simp
        with_reducible rfl
      rotate_left
      · simp only [Act.put, List.setIfInBounds_toArray, List.set_cons_zero, List.set_cons_succ, i64_w, i32_w]
        rfl
      refine take_ (i := 1) (N := some 35) (v := ?_) (a' := ?_) #[true, true, true, false, false, false, false, false, false, false, false, false, false, false, false, false, false, false, false, false, false, false, false, false, false, false, false] rfl rfl (take_ofW HT_.out HW_.out (by kernel_rfl)) (fun _ _ _ h => h) (Or.inl ⟨by rfl, ?_⟩) hHeld ?_ ?_
      rotate_left
      · intro w' s
        have c0 : w'.cell? ⟨g1, 16, none⟩ = some (.int .u8 q) := (blk_cell (blk_below Z0.out s) 16).trans PQ.out
        go_simp
        with_reducible rfl
      rotate_left
      · simp only [Act.put, List.setIfInBounds_toArray, List.set_cons_zero, List.set_cons_succ, i64_w, i32_w]
        rfl
      refine pure_ (i := 3) (N := some 37) (v := ?_) (a' := ?_) #[true, true, true, true, false, false, false, false, false, false, false, false, false, false, false, false, false, false, false, false, false, false, false, false, false, false, false] rfl rfl (any_of HT_.out (by kernel_rfl)) (fun _ _ _ h => h) (Or.inl ⟨by rfl, ?_⟩) ?_ ?_
      rotate_left
      · intro w'
        go_simp
        with_reducible rfl
      rotate_left
      · simp only [Act.put, List.setIfInBounds_toArray, List.set_cons_zero, List.set_cons_succ, i64_w, i32_w]
        rfl
      refine pure_ (i := 4) (N := some 38) (v := ?_) (a' := ?_) #[true, true, true, true, true, false, false, false, false, false, false, false, false, false, false, false, false, false, false, false, false, false, false, false, false, false, false] rfl rfl (any_of HT_.out (by kernel_rfl)) (fun _ _ _ h => h) (Or.inl ⟨by rfl, ?_⟩) ?_ ?_
      rotate_left
      · intro w'
        go_simp
        with_reducible rfl
      rotate_left
      · simp only [Act.put, List.setIfInBounds_toArray, List.set_cons_zero, List.set_cons_succ, i64_w, i32_w]
        rfl
      refine pure_ (i := 5) (N := some 39) (v := ?_) (a' := ?_) #[true, true, true, true, true, true, false, false, false, false, false, false, false, false, false, false, false, false, false, false, false, false, false, false, false, false, false] rfl rfl (any_of HT_.out (by kernel_rfl)) (fun _ _ _ h => h) (Or.inl ⟨by rfl, ?_⟩) ?_ ?_
      rotate_left
      · intro w'
        go_simp
        with_reducible rfl
      rotate_left
      · simp only [Act.put, List.setIfInBounds_toArray, List.set_cons_zero, List.set_cons_succ, i64_w, i32_w]
        rfl
      refine pure_ (i := 8) (N := some 42) (v := ?_) (a' := ?_) #[true, true, true, true, true, true, false, false, true, false, false, false, false, false, false, false, false, false, false, false, false, false, false, false, false, false, false] rfl rfl (any_of HT_.out (by kernel_rfl)) (fun _ _ _ h => h) (Or.inl ⟨by rfl, ?_⟩) ?_ ?_
      rotate_left
      · intro w'
        go_simp
        with_reducible rfl
      rotate_left
      · simp only [Act.put, List.setIfInBounds_toArray, List.set_cons_zero, List.set_cons_succ, i64_w, i32_w]
        rfl
      refine take_ (i := 6) (N := some 40) (v := _) (a' := ?_) #[true, true, true, true, true, true, true, false, true, false, false, false, false, false, false, false, false, false, false, false, false, false, false, false, false, false, false] rfl rfl (take_ofW HT_.out HW_.out (by kernel_rfl)) (fun _ _ _ h => h) (yields_part 24 (.tmp 39) g1 P1 csy 26 _ Z0.out PIY.out Try.underlying24 rfl IP1.out (by rfl) rfl rfl) hHeld ?_ ?_
      rotate_left
      · simp only [Act.put, List.setIfInBounds_toArray, List.set_cons_zero, List.set_cons_succ, i64_w, i32_w]
        rfl
      refine one_ (i := 7) (N := some 41) #[true, true, true, true, true, true, true, true, true, false, false, false, false, false, false, false, false, false, false, false, false, false, false, false, false, false, false] rfl rfl (one_of HT_.out (by kernel_rfl)) (by decide) (fun K hK => ?_)
      refine goes_ Try.func10 (by kernel_rfl) rfl #[] (by rfl) rfl rfl (by (try simp only [List.map_toArray, List.map_cons, List.map_nil]); first | done | rfl | (simp only [List.length_drop, List.length_take]; rfl)) ?_
      with_reducible refine (NC.out _).mono ?_
      rintro e w1 ⟨rfl, hb⟩
      refine ⟨_, rfl, ?_⟩
      have hHeld2 := below_step hHeld hb
      clear hHeld hb
      refine hK.out _ _ hHeld2 (fun hHeld => ?_)
      clear hK K hHeld2
      refine norm_ (a' := ?_) ?_ ?_
      rotate_left
      · show Act.put _ (some 41) _ = _
        simp only [Act.put, List.setIfInBounds_toArray, List.set_cons_zero, List.set_cons_succ, i64_w, i32_w]
        rfl
      refine one_ (i := 9) (N := some 43) #[true, true, true, true, true, true, true, true, true, true, false, false, false, false, false, false, false, false, false, false, false, false, false, false, false, false, false] rfl rfl (one_of HT_.out (by kernel_rfl)) (by decide) (fun K hK => ?_)
      refine goes_ Try.func9 (by kernel_rfl) rfl #[.agg ns, .slice A1 bs1.length cap1] (by rfl) rfl rfl (by (try simp only [List.map_toArray, List.map_cons, List.map_nil]); first | done | rfl | (simp only [List.length_drop, List.length_take]; rfl)) ?_
      with_reducible refine (LC1.out _ (below_step ZB.out hHeld)).mono ?_
      rintro e w1 ⟨rfl, hb⟩
      refine ⟨_, rfl, ?_⟩
      have hHeld2 := below_step hHeld hb
      clear hHeld hb
      refine hK.out _ _ hHeld2 (fun hHeld => ?_)
      clear hK K hHeld2
      refine norm_ (a' := ?_) ?_ ?_
      rotate_left
      · show Act.put _ (some 43) _ = _
        simp only [Act.put, List.setIfInBounds_toArray, List.set_cons_zero, List.set_cons_succ, i64_w, i32_w]
        rfl
      refine pure_ (i := 10) (N := some 44) (v := ?_) (a' := ?_) #[true, true, true, true, true, true, true, true, true, true, true, false, false, false, false, false, false, false, false, false, false, false, false, false, false, false, false] rfl rfl (any_of HT_.out (by kernel_rfl)) (fun _ _ _ h => h) (Or.inl ⟨by rfl, ?_⟩) ?_ ?_
      rotate_left
      · intro w'
        go_simp
        with_reducible rfl
      rotate_left
      · simp only [Act.put, List.setIfInBounds_toArray, List.set_cons_zero, List.set_cons_succ, i64_w, i32_w]
        rfl
      refine pure_ (i := 11) (N := some 45) (v := ?_) (a' := ?_) #[true, true, true, true, true, true, true, true, true, true, true, true, false, false, false, false, false, false, false, false, false, false, false, false, false, false, false] rfl rfl (any_of HT_.out (by kernel_rfl)) (fun _ _ _ h => h) (Or.inl ⟨by rfl, ?_⟩) ?_ ?_
      rotate_left
      · intro w'
        go_simp
        with_reducible rfl
      rotate_left
      · simp only [Act.put, List.setIfInBounds_toArray, List.set_cons_zero, List.set_cons_succ, i64_w, i32_w]
        rfl
      refine pure_ (i := 12) (N := some 46) (v := ?_) (a' := ?_) #[true, true, true, true, true, true, true, true, true, true, true, true, true, false, false, false, false, false, false, false, false, false, false, false, false, false, false] rfl rfl (any_of HT_.out (by kernel_rfl)) (fun _ _ _ h => h) (Or.inl ⟨by rfl, ?_⟩) ?_ ?_
      rotate_left
      · intro w'
        go_simp
        with_reducible rfl
      rotate_left
      · simp only [Act.put, List.setIfInBounds_toArray, List.set_cons_zero, List.set_cons_succ, i64_w, i32_w]
        rfl
      refine pure_ (i := 13) (N := some 47) (v := ?_) (a' := ?_) #[true, true, true, true, true, true, true, true, true, true, true, true, true, true, false, false, false, false, false, false, false, false, false, false, false, false, false] rfl rfl (any_of HT_.out (by kernel_rfl)) (fun _ _ _ h => h) (Or.inl ⟨by rfl, ?_⟩) ?_ ?_
      rotate_left
      · intro w'
        go_simp
        with_reducible rfl
      rotate_left
      · simp only [Act.put, List.setIfInBounds_toArray, List.set_cons_zero, List.set_cons_succ, i64_w, i32_w]
        rfl
      refine pure_ (i := 17) (N := some 51) (v := ?_) (a' := ?_) #[true, true, true, true, true, true, true, true, true, true, true, true, true, true, false, false, false, true, false, false, false, false, false, false, false, false, false] rfl rfl (any_of HT_.out (by kernel_rfl)) (fun _ _ _ h => h) (Or.inl ⟨by rfl, ?_⟩) ?_ ?_
      rotate_left
      · intro w'
        go_simp
        with_reducible rfl
      rotate_left
      · simp only [Act.put, List.setIfInBounds_toArray, List.set_cons_zero, List.set_cons_succ, i64_w, i32_w]
        rfl
      refine take_ (i := 14) (N := some 48) (v := _) (a' := ?_) #[true, true, true, true, true, true, true, true, true, true, true, true, true, true, true, false, false, true, false, false, false, false, false, false, false, false, false] rfl rfl (take_ofW HT_.out HW_.out (by kernel_rfl)) (fun _ _ _ h => h) (yields_row 26 (.tmp 9) g1 csy 26 (0, 0) _ Z0.out Try.underlying26 rfl IY.out (by rfl) rfl rfl) hHeld ?_ ?_
      rotate_left
      · simp only [Act.put, List.setIfInBounds_toArray, List.set_cons_zero, List.set_cons_succ, i64_w, i32_w]
        rfl
      refine take_ (i := 18) (N := some 52) (v := _) (a' := ?_) #[true, true, true, true, true, true, true, true, true, true, true, true, true, true, true, false, false, true, true, false, false, false, false, false, false, false, false] rfl rfl (take_ofW HT_.out HW_.out (by kernel_rfl)) (fun _ _ _ h => h) (yields_part 24 (.tmp 51) g1 P1 csy 26 _ Z0.out PIY.out Try.underlying24 rfl IP1.out (by rfl) rfl rfl) hHeld ?_ ?_
      rotate_left
      · simp only [Act.put, List.setIfInBounds_toArray, List.set_cons_zero, List.set_cons_succ, i64_w, i32_w]
        rfl
      refine one_ (i := 15) (N := some 49) #[true, true, true, true, true, true, true, true, true, true, true, true, true, true, true, true, false, true, true, false, false, false, false, false, false, false, false] rfl rfl (one_of HT_.out (by kernel_rfl)) (by decide) (fun K hK => ?_)
      refine goes_ Try.func8 (by kernel_rfl) rfl #[.agg csy, .int .u8 1] (by rfl) rfl rfl (by (try simp only [List.map_toArray, List.map_cons, List.map_nil]); first | done | rfl | (simp only [List.length_drop, List.length_take]; rfl)) ?_
      with_reducible refine (TY.out _).mono ?_
      rintro e w1 ⟨rfl, hb⟩
      refine ⟨_, rfl, ?_⟩
      have hHeld2 := below_step hHeld hb
      clear hHeld hb
      refine hK.out _ _ hHeld2 (fun hHeld => ?_)
      clear hK K hHeld2
      refine norm_ (a' := ?_) ?_ ?_
      rotate_left
      · show Act.put _ (some 49) _ = _
        simp only [Act.put, List.setIfInBounds_toArray, List.set_cons_zero, List.set_cons_succ, i64_w, i32_w]
        rfl
      refine pure_ (i := 16) (N := some 50) (v := ?_) (a' := ?_) #[true, true, true, true, true, true, true, true, true, true, true, true, true, true, true, true, true, true, true, false, false, false, false, false, false, false, false] rfl rfl (any_of HT_.out (by kernel_rfl)) (fun _ _ _ h => h) (Or.inl ⟨by rfl, ?_⟩) ?_ ?_
      rotate_left
      · intro w'
        go_simp
        with_reducible rfl
      rotate_left
      · simp only [Act.put, List.setIfInBounds_toArray, List.set_cons_zero, List.set_cons_succ, i64_w, i32_w]
        rfl
      refine pure_ (i := 19) (N := some 53) (v := ?_) (a' := ?_) #[true, true, true, true, true, true, true, true, true, true, true, true, true, true, true, true, true, true, true, true, false, false, false, false, false, false, false] rfl rfl (any_of HT_.out (by kernel_rfl)) (fun _ _ _ h => h) (Or.inl ⟨by rfl, ?_⟩) ?_ ?_
      rotate_left
      · intro w'
        go_simp
        with_reducible rfl
      rotate_left
      · simp only [Act.put, List.setIfInBounds_toArray, List.set_cons_zero, List.set_cons_succ, i64_w, i32_w]
        rfl
      refine pure_ (i := 20) (N := some 54) (v := ?_) (a' := ?_) #[true, true, true, true, true, true, true, true, true, true, true, true, true, true, true, true, true, true, true, true, true, false, false, false, false, false, false] rfl rfl (any_of HT_.out (by kernel_rfl)) (fun _ _ _ h => h) (Or.inl ⟨by rfl, ?_⟩) ?_ ?_
      rotate_left
      · intro w'
        go_simp
        with_reducible rfl
      rotate_left
      · simp only [Act.put, List.setIfInBounds_toArray, List.set_cons_zero, List.set_cons_succ, i64_w, i32_w]
        rfl
      refine pure_ (i := 21) (N := some 55) (v := ?_) (a' := ?_) #[true, true, true, true, true, true, true, true, true, true, true, true, true, true, true, true, true, true, true, true, true, true, false, false, false, false, false] rfl rfl (any_of HT_.out (by kernel_rfl)) (fun _ _ _ h => h) (Or.inl ⟨by rfl, ?_⟩) ?_ ?_
      rotate_left
      · intro w'
        go_simp
        with_reducible rfl
      rotate_left
      · simp only [Act.put, List.setIfInBounds_toArray, List.set_cons_zero, List.set_cons_succ, i64_w, i32_w]
        rfl
      refine pure_ (i := 22) (N := some 56) (v := ?_) (a' := ?_) #[true, true, true, true, true, true, true, true, true, true, true, true, true, true, true, true, true, true, true, true, true, true, true, false, false, false, false] rfl rfl (any_of HT_.out (by kernel_rfl)) (fun _ _ _ h => h) (Or.inl ⟨by rfl, ?_⟩) ?_ ?_
      rotate_left
      · intro w'
        go_simp
        with_reducible rfl
      rotate_left
      · simp only [Act.put, List.setIfInBounds_toArray, List.set_cons_zero, List.set_cons_succ, i64_w, i32_w]
        rfl
      refine pure_ (i := 23) (N := some 57) (v := ?_) (a' := ?_) #[true, true, true, true, true, true, true, true, true, true, true, true, true, true, true, true, true, true, true, true, true, true, true, true, false, false, false] rfl rfl (any_of HT_.out (by kernel_rfl)) (fun _ _ _ h => h) (Or.inl ⟨by rfl, ?_⟩) ?_ ?_
      rotate_left
      · intro w'
        go_simp
        with_reducible rfl
      rotate_left
      · simp only [Act.put, List.setIfInBounds_toArray, List.set_cons_zero, List.set_cons_succ, i64_w, i32_w]
        rfl
      refine one_ (i := 24) (N := some 58) #[true, true, true, true, true, true, true, true, true, true, true, true, true, true, true, true, true, true, true, true, true, true, true, true, true, false, false] rfl rfl (one_of HT_.out (by kernel_rfl)) (by decide) (fun K hK => ?_)
      refine goes_ Try.func11 (by kernel_rfl) rfl #[.slice A2 bs1.length c2, .slice A1 bs1.length cap1] (by rfl) rfl rfl (by (try simp only [List.map_toArray, List.map_cons, List.map_nil]); first | done | rfl | (simp only [List.length_drop, List.length_take]; rfl)) ?_
      with_reducible refine (cosmacref04_Same.calls _ A2 c2 bs1 A1 cap1 bs1 true _ (Kd.C_below HC2.out (below_step ZD.out hHeld)) LE2.out (Kd.C_below HRC1.out (below_step ZB.out hHeld)) HCAP1.out SAME.out).mono ?_
      rintro e w1 ⟨rfl, hdr⟩; have hb := hdr.below
      refine ⟨_, rfl, ?_⟩
      have hHeld2 := below_step hHeld hb
      clear hHeld hb
      refine hK.out _ _ hHeld2 (fun hHeld => ?_)
      clear hK K hHeld2
      refine norm_ (a' := ?_) ?_ ?_
      rotate_left
      · show Act.put _ (some 58) _ = _
        simp only [Act.put, List.setIfInBounds_toArray, List.set_cons_zero, List.set_cons_succ, i64_w, i32_w]
        rfl
      refine pure_ (i := 25) (N := some 59) (v := ?_) (a' := ?_) #[true, true, true, true, true, true, true, true, true, true, true, true, true, true, true, true, true, true, true, true, true, true, true, true, true, true, false] rfl rfl (any_of HT_.out (by kernel_rfl)) (fun _ _ _ h => h) (Or.inl ⟨by rfl, ?_⟩) ?_ ?_
      rotate_left
      · intro w'
        go_simp
        with_reducible rfl
      rotate_left
      · simp only [Act.put, List.setIfInBounds_toArray, List.set_cons_zero, List.set_cons_succ, i64_w, i32_w]
        rfl
      refine pure_ (i := 26) (N := some 6) (v := ?_) (a' := ?_) #[true, true, true, true, true, true, true, true, true, true, true, true, true, true, true, true, true, true, true, true, true, true, true, true, true, true, true] rfl rfl (any_of HT_.out (by kernel_rfl)) (fun _ _ _ h => h) (Or.inl ⟨by rfl, ?_⟩) ?_ ?_
      rotate_left
      · intro w'
        go_simp
        with_reducible rfl
      rotate_left
      · simp only [Act.put, List.setIfInBounds_toArray, List.set_cons_zero, List.set_cons_succ, i64_w, i32_w]
        rfl
      refine done_ (done_of HT_.out (by kernel_rfl)) ?_
      go_wp2
      go_ret
      exact ⟨rfl, below_step ZB.out hHeld⟩
    · have hlb1 : decide (1000 < (bs1.length : Int)) = true := decide_eq_true (by omega)
      clear hr0 hr1 hc0 hc1 hlen hlen1 hb0 hb1
      go_enter Try.func3, Try.ntmps3
      go_wp2_with (first
        | (go_at_call 7; with_reducible refine (awake_calls _).mono ?_; rintro e w1 ⟨rfl, hb⟩; have n0_ := Aside0.mk (below_step (by repeat (first | (with_reducible first | exact HB.out | apply below_alloc | apply pw_below_drewN | apply below_drew1) | exact HB.out)) hb); clear HB hb; have HB := n0_; clear n0_))
      go_ret
      exact ⟨rfl, HB.out⟩
  · have hlb : decide (1000 < (bs0.length : Int)) = true := decide_eq_true (by omega)
    clear hr0 hr1 hc0 hc1 hlen hb0 hb1
    go_enter Try.func3, Try.ntmps3
    go_wp2_with (first
      | (go_at_call 7; with_reducible refine (awake_calls _).mono ?_; rintro e w1 ⟨rfl, hb⟩; have n0_ := Aside0.mk (below_step (by repeat (first | (with_reducible first | exact HB.out | apply below_alloc | apply pw_below_drewN | apply below_drew1) | exact HB.out)) hb); clear HB hb; have HB := n0_; clear n0_))
    go_ret
    exact ⟨rfl, HB.out⟩
end Go.Proofs.Ytgpjnaabbfalkaa
