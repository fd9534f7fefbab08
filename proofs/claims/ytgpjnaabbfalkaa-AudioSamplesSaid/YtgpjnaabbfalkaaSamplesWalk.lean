/- AudioSamples: for every two slices of bytes and every number the call returns true: samples repeat after 128, and different patterns have different samples. -/
import Derived.Test.YtgpjnaabbfalkaaAwake
import Derived.Test.YtgpjnaabbfalkaaPat
import Derived.Outline
namespace Go.Proofs.Ytgpjnaabbfalkaa
open Go.RowKit Go.Proofs.YtgpjnaabbfalkaaW.PrintWords Go.Proofs.YtgpjnaabbfalkaaW.PrintLast Go.Proofs.YtgpjnaabbfalkaaW.PrintMore
open Go.Proofs.Ytgpjnaabbfalkaa.PAudioMatchesReference
set_option linter.unusedSimpArgs false
set_option linter.unusedVariables false
def sa9.T : Bool × List (List Nat × List Nat) := (true, [([], []), ([0], [0]), ([1], [1]), ([1], [1]), ([2, 3, 1, 1], [1, 2, 3]), ([1], [1]), ([1], [1]), ([5, 6, 4, 1], [1, 5, 6]), ([4, 7, 1], [1, 4, 7]), ([1, 8], [1, 8]), ([9, 7, 0, 1, 2, 3, 4, 5, 6, 7, 8, 9], [0, 9])])
def sa9.B : List Nat := [0, 1, 3, 3, 15, 3, 3, 127, 255, 511, 1023]
theorem sa9.tab : rtab .any (opsOf Try.f6 9) = sa9.T := by kernel_rfl
theorem sa9.bits : waitsOk sa9.T.2 sa9.B = true := by kernel_rfl
def sa11.T : Bool × List (List Nat × List Nat) := (true, [([], []), ([], []), ([1], [1]), ([], []), ([3], [3]), ([2, 4], [2, 4]), ([0, 5], [0, 5]), ([6], [6]), ([7], [7]), ([7], [7]), ([8, 9, 7, 7], [7, 8, 9]), ([7], [7]), ([7], [7]), ([12, 7], [7, 12]), ([11, 13, 10, 7], [7, 11, 13]), ([10, 14, 7], [7, 10, 14]), ([7, 15], [7, 15]), ([16, 14], [16]), ([17], [17]), ([17], [17]), ([18, 19, 17, 17], [17, 18, 19]), ([17], [17]), ([17], [17]), ([22, 17], [17, 22]), ([21, 23, 20, 17], [17, 21, 23]), ([20, 24, 17], [17, 20, 24]), ([17, 25], [17, 25]), ([26, 24, 0, 1, 2, 3, 4, 5, 6, 7, 8, 9, 10, 11, 12, 13, 14, 15, 16, 17, 18, 19, 20, 21, 22, 23, 24, 25, 26], [26])])
def sa11.B : List Nat := [0, 0, 2, 0, 8, 30, 63, 127, 255, 255, 1023, 255, 255, 4351, 16383, 32767, 65535, 131071, 262143, 262143, 1048575, 262143, 262143, 4456447, 16777215, 33554431, 67108863, 134217727]
theorem sa11.tab : rtab .any (opsOf Try.f6 11) = sa11.T := by kernel_rfl
theorem sa11.bits : waitsOk sa11.T.2 sa11.B = true := by kernel_rfl

set_option maxRecDepth 100000 in
set_option maxHeartbeats 4000000 in
theorem samples_walk (A0 : Option Addr) (cap0 : Nat) (bs0 : List Int) (A1 : Option Addr) (cap1 : Nat) (bs1 : List Int) (n : Int) (w : World) (hr0 : Kd.C (Kd.int .u8) w A0 bs0.length bs0) (hc0 : bs0.length ≤ cap0) (hb0 : ∀ x ∈ bs0, 0 ≤ x ∧ x ≤ 255) (hr1 : Kd.C (Kd.int .u8) w A1 bs1.length bs1) (hc1 : bs1.length ≤ cap1) (hb1 : ∀ x ∈ bs1, 0 ≤ x ∧ x ≤ 255) (hn : -2147483648 ≤ n ∧ n ≤ 2147483647) :
    Calls Try.prog 6 #[.slice A0 bs0.length cap0, .slice A1 bs1.length cap1, .int .i32 n] w fun e w' => e = .returned (.bool true) ∧ Below w.heap.size w w' := by
  have HB := Aside0.mk (Below.refl w.heap.size w)
  have hx0 : bs0.length ≤ 9223372036854775807 := hr0.2.1
  have hx1 : bs1.length ≤ 9223372036854775807 := hr1.2.1
  obtain ⟨n0, n1⟩ := hn
  by_cases hlen : bs0.length ≤ 1000
  · have hlb : decide (1000 < (bs0.length : Int)) = false := decide_eq_false (by omega)
    by_cases hlen1 : bs1.length ≤ 1000
    · have hlb1 : decide (1000 < (bs1.length : Int)) = false := decide_eq_false (by omega)
      have hm0 : bs0.length ≤ 9223372036854775807 := hr0.2.1
      have HF0 := Lib.hid (⟨fill_length bs0, fill_bytes bs0 hb0⟩ : _ ∧ _)
      have LC0 := Lib.hid (fun w' (h : Below w.heap.size w w') => load_any (List.replicate 16 0) (by simp) 64 A0 cap0 bs0 w' (Kd.C_below hr0 h))
      have SC0 := Lib.hid (fun i w' => sample_calls (fill bs0) (fill_length bs0) 64 i w')
      obtain ⟨F0, hF0⟩ : ∃ F, fill bs0 = F := ⟨_, rfl⟩
      rw [hF0] at HF0 LC0 SC0
      clear hF0
      have I0 : Hid ((Try.prog.info? 26).map (·.size) = some (auC F0 64).size) := by rw [auC_size HF0.out.1]; exact info26
      have SZ0 := Lib.hid (auC_size HF0.out.1 64)
      have O0 := Lib.hid (auC_one F0 64)
      have PI0 := Lib.hid (pat_in (F := F0) 64)
      have IP0 : Hid ((Try.prog.info? 24).map (·.size) = some (pat F0).size) := by rw [pat_size HF0.out.1]; exact info24
      have hm1 : bs1.length ≤ 9223372036854775807 := hr1.2.1
      have HF1 := Lib.hid (⟨fill_length bs1, fill_bytes bs1 hb1⟩ : _ ∧ _)
      have LC1 := Lib.hid (fun w' (h : Below w.heap.size w w') => load_any (List.replicate 16 0) (by simp) 64 A1 cap1 bs1 w' (Kd.C_below hr1 h))
      have SC1 := Lib.hid (fun i w' => sample_calls (fill bs1) (fill_length bs1) 64 i w')
      obtain ⟨F1, hF1⟩ : ∃ F, fill bs1 = F := ⟨_, rfl⟩
      rw [hF1] at HF1 LC1 SC1
      clear hF1
      have I1 : Hid ((Try.prog.info? 26).map (·.size) = some (auC F1 64).size) := by rw [auC_size HF1.out.1]; exact info26
      have SZ1 := Lib.hid (auC_size HF1.out.1 64)
      have O1 := Lib.hid (auC_one F1 64)
      have PI1 := Lib.hid (pat_in (F := F1) 64)
      have IP1 : Hid ((Try.prog.info? 24).map (·.size) = some (pat F1).size) := by rw [pat_size HF1.out.1]; exact info24
      have HS := Lib.hid (fun k => same_succ F0 F1 k)
      have HL := same_law F0 F1 HF0.out.1 HF1.out.1 HF0.out.2 HF1.out.2
      have HE := fun w => eq24 F0 F1 HF0.out.1 HF1.out.1 w
      have hsp : smp F0 (wrap64 (n + 128)) = smp F0 n := by rw [show wrap64 (n + 128) = n + 128 by unfold wrap64; omega]; exact smp_add F0 n
      have hsm : smp F0 (wrap64 (n - 256)) = smp F0 n := by rw [show wrap64 (n - 256) = n - 256 by unfold wrap64; omega]; exact smp_sub F0 n
      have SN := Lib.hid (SC0.out n)
      have SP := Lib.hid (SC0.out (wrap64 (n + 128)))
      have SM := Lib.hid (SC0.out (wrap64 (n - 256)))
      rw [hsp] at SP
      rw [hsm] at SM
      have NC := Lib.hid new_calls
      obtain ⟨ns, hns⟩ : ∃ ns, auC (List.replicate 16 0) 64 = ns := ⟨_, rfl⟩
      rw [hns] at NC LC0 LC1
      obtain ⟨cs0, hcs0⟩ : ∃ cs, auC F0 64 = cs := ⟨_, rfl⟩
      obtain ⟨cs1, hcs1⟩ : ∃ cs, auC F1 64 = cs := ⟨_, rfl⟩
      obtain ⟨P0, hP0⟩ : ∃ cs, pat F0 = cs := ⟨_, rfl⟩
      obtain ⟨P1, hP1⟩ : ∃ cs, pat F1 = cs := ⟨_, rfl⟩
      rw [hcs0] at I0 SZ0 O0 PI0 LC0 SC0 SN SP SM
      rw [hcs1] at I1 SZ1 O1 PI1 LC1 SC1
      rw [hP0] at IP0 PI0 HE
      rw [hP1] at IP1 PI1 HE
      have HLL := Lib.hid HL
      obtain ⟨EQ, hEQ⟩ : ∃ b, (F0 == F1) = b := ⟨_, rfl⟩
      rw [hEQ] at HE HLL
      have HEE := Lib.hid HE
      obtain ⟨sn, hsn⟩ : ∃ b, smp F0 n = b := ⟨_, rfl⟩
      rw [hsn] at SN SP SM
      clear hr0 hr1 hc0 hc1 hcs0 hcs1 hP0 hP1 hns HL HE hEQ hsp hsm hsn hlen hlen1 hb0 hb1
      go_enter Try.func6, Try.ntmps6
      go_wp2_with (first
        | (go_at_call 7; with_reducible refine (awake_calls _).mono ?_; rintro e w1 ⟨rfl, hb⟩; have n0_ := Aside0.mk (below_step (by repeat (first | (with_reducible first | exact HB.out | apply below_alloc | apply pw_below_drewN | apply below_drew1) | exact HB.out)) hb); clear HB hb; have HB := n0_; clear n0_)
        | (go_at_call 10; with_reducible refine (NC.out _).mono ?_; rintro e w1 ⟨rfl, hb⟩; have n0_ := Aside0.mk (below_step (by repeat (first | (with_reducible first | exact HB.out | apply below_alloc | apply pw_below_drewN | apply below_drew1) | exact HB.out)) hb); have nr0_ := Aside0.mk (blk_below (by (with_reducible repeat (first | refine blk_drewN ?_ _ | refine blk_drew ?_ | refine blk_alloc ?_ _)); exact BK0.out) hb); clear HB hb; have HB := n0_; clear n0_; clear BK0; have BK0 := nr0_; clear nr0_)
        | (go_at_call 10; with_reducible refine (NC.out _).mono ?_; rintro e w1 ⟨rfl, hb⟩; have n0_ := Aside0.mk (below_step (by repeat (first | (with_reducible first | exact HB.out | apply below_alloc | apply pw_below_drewN | apply below_drew1) | exact HB.out)) hb); clear HB hb; have HB := n0_; clear n0_)
        | (go_at_call 9; with_reducible refine (LC0.out _ HB.out).mono ?_; rintro e w1 ⟨rfl, hb⟩; have n0_ := Aside0.mk (below_step (by repeat (first | (with_reducible first | exact HB.out | apply below_alloc | apply pw_below_drewN | apply below_drew1) | exact HB.out)) hb); clear HB hb; have HB := n0_; clear n0_)
        | (go_at_call 9; with_reducible refine (LC1.out _ HB.out).mono ?_; rintro e w1 ⟨rfl, hb⟩; have n0_ := Aside0.mk (below_step (by repeat (first | (with_reducible first | exact HB.out | apply below_alloc | apply pw_below_drewN | apply below_drew1) | exact HB.out)) hb); have nr0_ := Aside0.mk (blk_below (by (with_reducible repeat (first | refine blk_drewN ?_ _ | refine blk_drew ?_ | refine blk_alloc ?_ _)); exact BK0.out) hb); clear HB hb; have HB := n0_; clear n0_; clear BK0; have BK0 := nr0_; clear nr0_)
        | ((with_reducible refine gate_dst (N := 7) rfl ?_); refine box_event ?hg (N := 7) ?hd (cs := #[Value.int .u8 0, Value.int .u8 0, Value.int .u8 0, Value.int .u8 0, Value.int .u8 0, Value.int .u8 0, Value.int .u8 0, Value.int .u8 0, Value.int .u8 0, Value.int .u8 0, Value.int .u8 0, Value.int .u8 0, Value.int .u8 0, Value.int .u8 0, Value.int .u8 0, Value.int .u8 0, Value.int .u8 0]) (t := 26) ?hr ?_; (case hd => rfl); (case hg => rfl); (case hr => first | (go_simp; done) | (go_simp; rfl)); intro g0 hg w1 hbox hb; have GE0 := Aside0.mk ((by rw [hg]; exact (below_size (by repeat (first | (with_reducible first | exact HB.out | apply below_alloc | apply pw_below_drewN | apply below_drew1) | exact HB.out)))) : w.heap.size ≤ g0); have LT0 := Aside0.mk (blk_lt hbox); clear hg; have n0_ := Aside0.mk (below_step (by repeat (first | (with_reducible first | exact HB.out | apply below_alloc | apply pw_below_drewN | apply below_drew1) | exact HB.out)) hb); clear HB hb; have HB := n0_; clear n0_; have BK0 := Aside0.mk hbox; clear hbox)
        | ((with_reducible refine gate_dst (N := 8) rfl ?_); refine box_event ?hg (N := 8) ?hd (cs := #[Value.int .u8 0, Value.int .u8 0, Value.int .u8 0, Value.int .u8 0, Value.int .u8 0, Value.int .u8 0, Value.int .u8 0, Value.int .u8 0, Value.int .u8 0, Value.int .u8 0, Value.int .u8 0, Value.int .u8 0, Value.int .u8 0, Value.int .u8 0, Value.int .u8 0, Value.int .u8 0, Value.int .u8 0]) (t := 26) ?hr ?_; (case hd => rfl); (case hg => rfl); (case hr => first | (go_simp; done) | (go_simp; rfl)); intro g1 hg w1 hbox hb; have GE1 := Aside0.mk ((by rw [hg]; exact (below_size (by repeat (first | (with_reducible first | exact HB.out | apply below_alloc | apply pw_below_drewN | apply below_drew1) | exact HB.out)))) : w.heap.size ≤ g1); have LT1 := Aside0.mk (blk_lt hbox); have NE1_0 := Aside0.mk ((by rw [hg]; exact Nat.ne_of_lt (blk_lt (by (with_reducible repeat (first | refine blk_drewN ?_ _ | refine blk_drew ?_ | refine blk_alloc ?_ _)); exact BK0.out))) : g0 ≠ g1); clear hg; have n0_ := Aside0.mk (below_step (by repeat (first | (with_reducible first | exact HB.out | apply below_alloc | apply pw_below_drewN | apply below_drew1) | exact HB.out)) hb); have nr0_ := Aside0.mk (blk_below (by (with_reducible repeat (first | refine blk_drewN ?_ _ | refine blk_drew ?_ | refine blk_alloc ?_ _)); exact BK0.out) hb); clear HB hb; have HB := n0_; clear n0_; clear BK0; have BK0 := nr0_; clear nr0_; have BK1 := Aside0.mk hbox; clear hbox)
        | ((with_reducible refine gate_store (t := 26) (p := 7) (v := .tmp 27) rfl ?_); refine wpList_store_row rfl 26 (.tmp 7) (.tmp 27) rfl g0 (cs0) rfl rfl 26 _ BK0.out I0.out (by first | rfl | (rw [SZ0.out]; rfl)) O0.out ?_; have n1_ := Aside0.mk (setRow_heap _ _ _ (cs0) _ _ BK0.out); have n0_ := Aside0.mk (below_setRow HB.out GE0.out (cs0)); clear BK0 HB LT0; generalize World.setRow _ _ _ = w1 at n0_ n1_ ⊢; have BK0 := n1_; have HB := n0_; clear n0_ n1_)
        | ((with_reducible refine gate_store (t := 26) (p := 8) (v := .tmp 30) rfl ?_); refine wpList_store_row rfl 26 (.tmp 8) (.tmp 30) rfl g1 (cs1) rfl rfl 26 _ BK1.out I1.out (by first | rfl | (rw [SZ1.out]; rfl)) O1.out ?_; have n1_ := Aside0.mk (setRow_heap _ _ _ (cs1) _ _ BK1.out); have n0_ := Aside0.mk (below_setRow HB.out GE1.out (cs1)); have nr0_ := Aside0.mk ((setRow_other _ _ _ (cs1) NE1_0.out).trans BK0.out); clear BK1 HB LT1 BK0; generalize World.setRow _ _ _ = w1 at n0_ n1_ nr0_ ⊢; have BK1 := n1_; have HB := n0_; clear n0_ n1_; have BK0 := nr0_; clear nr0_))
      have hst : (true : Bool) = same F0 F1 0 := rfl
      go_loopg [9, 10] 129 (fun kq v9 v10 w' => ∃ j : Nat, v9 = .bool (same F0 F1 j) ∧ v10 = .int .i64 (j : Int) ∧ Aside0 (j ≤ 128 ∧ kq + j = 129) ∧ Aside0 (Below w.heap.size w w') ∧ Aside0 (w'.heap[g0]? = some (.cells cs0 26 (0, 0))) ∧ Aside0 (w'.heap[g1]? = some (.cells cs1 26 (0, 0))))
      case atStart => exact ⟨0, rfl, rfl, ⟨by omega, by omega⟩, HB, BK0, BK1⟩
      case round =>
        clear hst HB BK0 BK1
        obtain ⟨j, rfl, rfl, HJ, HB, BK0, BK1⟩ := hrel
        have hj16 := HJ.out.1
        by_cases hj : j < 128
        · have hjb : decide ((j : Int) < 128) = true := decide_eq_true (by omega)
          cases gk with
          | zero => exact absurd HJ.out.2 (by omega)
          | succ k1 =>
            have SS := Lib.hid (HS.out j)
            cases hs : same F0 F1 j
            · rw [hs] at SS
              have SS2 := Lib.hid (SS.out.trans (Bool.false_and _))
              clear SS hs
              go_wp2
              refine start2 (n := 11) #[false, false, false, false, false, false, false, false, false, false, false] (by kernel_rfl) rfl rfl (fun W0 hW0 hHeld => ?_)
              have Z0 : Aside0 (W0.heap[g0]? = some (.cells cs0 26 (0, 0))) := ⟨by rw [hW0]; exact blk_drew BK0.out⟩
              have Z1 : Aside0 (W0.heap[g1]? = some (.cells cs1 26 (0, 0))) := ⟨by rw [hW0]; exact blk_drew BK1.out⟩
              have ZB : Aside0 (Below w.heap.size w W0) := ⟨by rw [hW0]; exact below_drew1 HB.out⟩
              clear hW0 BK0 BK1 HB
              refine with_tabW sa9.tab sa9.bits (fun HT_ HW_ => ?_)
              refine pure_ (i := 0) (N := some 35) (v := ?_) (a' := ?_) #[true, false, false, false, false, false, false, false, false, false, false] rfl rfl (any_of HT_.out (by kernel_rfl)) (fun _ _ _ h => h) (Or.inl ⟨by rfl, ?_⟩) ?_ ?_
              rotate_left
              · intro w'
                go_simp
                with_reducible rfl
              rotate_left
              · simp only [Act.put, List.setIfInBounds_toArray, List.set_cons_zero, List.set_cons_succ, i64_w, i32_w]
                rfl
              refine pure_ (i := 1) (N := some 36) (v := ?_) (a' := ?_) #[true, true, false, false, false, false, false, false, false, false, false] rfl rfl (any_of HT_.out (by kernel_rfl)) (fun _ _ _ h => h) (Or.inl ⟨by rfl, ?_⟩) ?_ ?_
              rotate_left
              · intro w'
                go_simp
                with_reducible rfl
              rotate_left
              · simp only [Act.put, List.setIfInBounds_toArray, List.set_cons_zero, List.set_cons_succ, i64_w, i32_w]
                rfl
              refine pure_ (i := 2) (N := some 37) (v := undef) (a' := ?_) #[true, true, true, false, false, false, false, false, false, false, false] rfl rfl (any_of HT_.out (by kernel_rfl)) (fun _ _ _ h => h) (Or.inr ⟨by rfl, rfl⟩) ?_ ?_
              rotate_left
              · simp only [Act.put, List.setIfInBounds_toArray, List.set_cons_zero, List.set_cons_succ, i64_w, i32_w]
                rfl
              refine pure_ (i := 3) (N := some 38) (v := undef) (a' := ?_) #[true, true, true, true, false, false, false, false, false, false, false] rfl rfl (any_of HT_.out (by kernel_rfl)) (fun _ _ _ h => h) (Or.inr ⟨by rfl, rfl⟩) ?_ ?_
              rotate_left
              · simp only [Act.put, List.setIfInBounds_toArray, List.set_cons_zero, List.set_cons_succ, i64_w, i32_w]
                rfl
              refine pure_ (i := 4) (N := some 39) (v := undef) (a' := ?_) #[true, true, true, true, true, false, false, false, false, false, false] rfl rfl (any_of HT_.out (by kernel_rfl)) (fun _ _ _ h => h) (Or.inr ⟨by rfl, rfl⟩) ?_ ?_
              rotate_left
              · simp only [Act.put, List.setIfInBounds_toArray, List.set_cons_zero, List.set_cons_succ, i64_w, i32_w]
                rfl
              refine pure_ (i := 5) (N := some 40) (v := undef) (a' := ?_) #[true, true, true, true, true, true, false, false, false, false, false] rfl rfl (any_of HT_.out (by kernel_rfl)) (fun _ _ _ h => h) (Or.inr ⟨by rfl, rfl⟩) ?_ ?_
              rotate_left
              · simp only [Act.put, List.setIfInBounds_toArray, List.set_cons_zero, List.set_cons_succ, i64_w, i32_w]
                rfl
              refine pure_ (i := 6) (N := some 41) (v := undef) (a' := ?_) #[true, true, true, true, true, true, true, false, false, false, false] rfl rfl (any_of HT_.out (by kernel_rfl)) (fun _ _ _ h => h) (Or.inr ⟨by rfl, rfl⟩) ?_ ?_
              rotate_left
              · simp only [Act.put, List.setIfInBounds_toArray, List.set_cons_zero, List.set_cons_succ, i64_w, i32_w]
                rfl
              refine pure_ (i := 7) (N := some 42) (v := undef) (a' := ?_) #[true, true, true, true, true, true, true, true, false, false, false] rfl rfl (any_of HT_.out (by kernel_rfl)) (fun _ _ _ h => h) (Or.inr ⟨by rfl, rfl⟩) ?_ ?_
              rotate_left
              · simp only [Act.put, List.setIfInBounds_toArray, List.set_cons_zero, List.set_cons_succ, i64_w, i32_w]
                rfl
              refine pure_ (i := 8) (N := some 43) (v := undef) (a' := ?_) #[true, true, true, true, true, true, true, true, true, false, false] rfl rfl (any_of HT_.out (by kernel_rfl)) (fun _ _ _ h => h) (Or.inr ⟨by rfl, rfl⟩) ?_ ?_
              rotate_left
              · simp only [Act.put, List.setIfInBounds_toArray, List.set_cons_zero, List.set_cons_succ, i64_w, i32_w]
                rfl
              refine pure_ (i := 9) (N := some 44) (v := ?_) (a' := ?_) #[true, true, true, true, true, true, true, true, true, true, false] rfl rfl (any_of HT_.out (by kernel_rfl)) (fun _ _ _ h => h) (Or.inl ⟨by rfl, ?_⟩) ?_ ?_
              rotate_left
              · intro w'
                go_simp
                with_reducible rfl
              rotate_left
              · simp only [Act.put, List.setIfInBounds_toArray, List.set_cons_zero, List.set_cons_succ, i64_w, i32_w]
                rfl
              refine pure_ (i := 10) (N := some 9) (v := ?_) (a' := ?_) #[true, true, true, true, true, true, true, true, true, true, true] rfl rfl (any_of HT_.out (by kernel_rfl)) (fun _ _ _ h => h) (Or.inl ⟨by rfl, ?_⟩) ?_ ?_
              rotate_left
              · intro w'
                go_simp
                with_reducible rfl
              rotate_left
              · simp only [Act.put, List.setIfInBounds_toArray, List.set_cons_zero, List.set_cons_succ, i64_w, i32_w]
                rfl
              refine done_ (done_of HT_.out (by kernel_rfl)) ?_
              have HB := Aside0.mk (below_step ZB.out hHeld)
              have BK0 := Aside0.mk (blk_below Z0.out hHeld)
              have BK1 := Aside0.mk (blk_below Z1.out hHeld)
              clear Z0 Z1 ZB hHeld
              go_wp2
              go_roundg k1
              case measure => omega
              case rel => exact ⟨j + 1, by rw [SS2.out], rfl, ⟨by omega, by have := HJ.out.2; omega⟩, HB, BK0, BK1⟩
            · rw [hs] at SS
              have SS2 := Lib.hid (SS.out.trans (Bool.true_and _))
              clear SS hs
              go_wp2
              refine start2 (n := 11) #[false, false, false, false, false, false, false, false, false, false, false] (by kernel_rfl) rfl rfl (fun W0 hW0 hHeld => ?_)
              have Z0 : Aside0 (W0.heap[g0]? = some (.cells cs0 26 (0, 0))) := ⟨by rw [hW0]; exact blk_drew BK0.out⟩
              have Z1 : Aside0 (W0.heap[g1]? = some (.cells cs1 26 (0, 0))) := ⟨by rw [hW0]; exact blk_drew BK1.out⟩
              have ZB : Aside0 (Below w.heap.size w W0) := ⟨by rw [hW0]; exact below_drew1 HB.out⟩
              clear hW0 BK0 BK1 HB
              refine with_tabW sa9.tab sa9.bits (fun HT_ HW_ => ?_)
              refine pure_ (i := 0) (N := some 35) (v := ?_) (a' := ?_) #[true, false, false, false, false, false, false, false, false, false, false] rfl rfl (any_of HT_.out (by kernel_rfl)) (fun _ _ _ h => h) (Or.inl ⟨by rfl, ?_⟩) ?_ ?_
              rotate_left
              · intro w'
                go_simp
                with_reducible rfl
              rotate_left
              · simp only [Act.put, List.setIfInBounds_toArray, List.set_cons_zero, List.set_cons_succ, i64_w, i32_w]
                rfl
              refine pure_ (i := 1) (N := some 36) (v := ?_) (a' := ?_) #[true, true, false, false, false, false, false, false, false, false, false] rfl rfl (any_of HT_.out (by kernel_rfl)) (fun _ _ _ h => h) (Or.inl ⟨by rfl, ?_⟩) ?_ ?_
              rotate_left
              · intro w'
                go_simp
                with_reducible rfl
              rotate_left
              · simp only [Act.put, List.setIfInBounds_toArray, List.set_cons_zero, List.set_cons_succ, i64_w, i32_w]
                rfl
              refine pure_ (i := 3) (N := some 38) (v := ?_) (a' := ?_) #[true, true, false, true, false, false, false, false, false, false, false] rfl rfl (any_of HT_.out (by kernel_rfl)) (fun _ _ _ h => h) (Or.inl ⟨by rfl, ?_⟩) ?_ ?_
              rotate_left
              · intro w'
                go_simp
                with_reducible rfl
              rotate_left
              · simp only [Act.put, List.setIfInBounds_toArray, List.set_cons_zero, List.set_cons_succ, i64_w, i32_w]
                rfl
              refine pure_ (i := 6) (N := some 41) (v := ?_) (a' := ?_) #[true, true, false, true, false, false, true, false, false, false, false] rfl rfl (any_of HT_.out (by kernel_rfl)) (fun _ _ _ h => h) (Or.inl ⟨by rfl, ?_⟩) ?_ ?_
              rotate_left
              · intro w'
                go_simp
                with_reducible rfl
              rotate_left
              · simp only [Act.put, List.setIfInBounds_toArray, List.set_cons_zero, List.set_cons_succ, i64_w, i32_w]
                rfl
              refine take_ (i := 2) (N := some 37) (v := _) (a' := ?_) #[true, true, true, true, false, false, true, false, false, false, false] rfl rfl (take_ofW HT_.out HW_.out (by kernel_rfl)) (fun _ _ _ h => h) (yields_row 26 (.tmp 7) g0 cs0 26 (0, 0) _ Z0.out Try.underlying26 rfl I0.out (by rfl) rfl rfl) hHeld ?_ ?_
              rotate_left
              · simp only [Act.put, List.setIfInBounds_toArray, List.set_cons_zero, List.set_cons_succ, i64_w, i32_w]
                rfl
              refine take_ (i := 5) (N := some 40) (v := _) (a' := ?_) #[true, true, true, true, false, true, true, false, false, false, false] rfl rfl (take_ofW HT_.out HW_.out (by kernel_rfl)) (fun _ _ _ h => h) (yields_row 26 (.tmp 8) g1 cs1 26 (0, 0) _ Z1.out Try.underlying26 rfl I1.out (by rfl) rfl rfl) hHeld ?_ ?_
              rotate_left
              · simp only [Act.put, List.setIfInBounds_toArray, List.set_cons_zero, List.set_cons_succ, i64_w, i32_w]
                rfl
              refine one_ (i := 4) (N := some 39) #[true, true, true, true, true, true, true, false, false, false, false] rfl rfl (one_of HT_.out (by kernel_rfl)) (by decide) (fun K hK => ?_)
              refine goes_ Try.func15 (by kernel_rfl) rfl #[.agg cs0, .int .i64 (j : Int)] (by rfl) rfl rfl (by (try simp only [List.map_toArray, List.map_cons, List.map_nil]); first | done | rfl | (simp only [List.length_drop, List.length_take]; rfl)) ?_
              with_reducible refine (SC0.out (j : Int) _).mono ?_
              rintro e w1 ⟨rfl, hb⟩
              refine ⟨_, rfl, ?_⟩
              have hHeld2 := below_step hHeld hb
              clear hHeld hb
              refine hK.out _ _ hHeld2 (fun hHeld => ?_)
              clear hK K hHeld2
              refine norm_ (a' := ?_) ?_ ?_
              rotate_left
              · show Act.put _ (some 39) _ = _
                simp only [Act.put, List.setIfInBounds_toArray, List.set_cons_zero, List.set_cons_succ, i64_w, i32_w]
                rfl
              refine one_ (i := 7) (N := some 42) #[true, true, true, true, true, true, true, true, false, false, false] rfl rfl (one_of HT_.out (by kernel_rfl)) (by decide) (fun K hK => ?_)
              refine goes_ Try.func15 (by kernel_rfl) rfl #[.agg cs1, .int .i64 (j : Int)] (by rfl) rfl rfl (by (try simp only [List.map_toArray, List.map_cons, List.map_nil]); first | done | rfl | (simp only [List.length_drop, List.length_take]; rfl)) ?_
              with_reducible refine (SC1.out (j : Int) _).mono ?_
              rintro e w1 ⟨rfl, hb⟩
              refine ⟨_, rfl, ?_⟩
              have hHeld2 := below_step hHeld hb
              clear hHeld hb
              refine hK.out _ _ hHeld2 (fun hHeld => ?_)
              clear hK K hHeld2
              refine norm_ (a' := ?_) ?_ ?_
              rotate_left
              · show Act.put _ (some 42) _ = _
                simp only [Act.put, List.setIfInBounds_toArray, List.set_cons_zero, List.set_cons_succ, i64_w, i32_w]
                rfl
              refine pure_ (i := 8) (N := some 43) (v := ?_) (a' := ?_) #[true, true, true, true, true, true, true, true, true, false, false] rfl rfl (any_of HT_.out (by kernel_rfl)) (fun _ _ _ h => h) (Or.inl ⟨by rfl, ?_⟩) ?_ ?_
              rotate_left
              · intro w'
                go_simp
                with_reducible rfl
              rotate_left
              · simp only [Act.put, List.setIfInBounds_toArray, List.set_cons_zero, List.set_cons_succ, i64_w, i32_w]
                rfl
              refine pure_ (i := 9) (N := some 44) (v := ?_) (a' := ?_) #[true, true, true, true, true, true, true, true, true, true, false] rfl rfl (any_of HT_.out (by kernel_rfl)) (fun _ _ _ h => h) (Or.inl ⟨by rfl, ?_⟩) ?_ ?_
              rotate_left
              · intro w'
                go_simp
                with_reducible rfl
              rotate_left
              · simp only [Act.put, List.setIfInBounds_toArray, List.set_cons_zero, List.set_cons_succ, i64_w, i32_w]
                rfl
              refine pure_ (i := 10) (N := some 9) (v := ?_) (a' := ?_) #[true, true, true, true, true, true, true, true, true, true, true] rfl rfl (any_of HT_.out (by kernel_rfl)) (fun _ _ _ h => h) (Or.inl ⟨by rfl, ?_⟩) ?_ ?_
              rotate_left
              · intro w'
                go_simp
                with_reducible rfl
              rotate_left
              · simp only [Act.put, List.setIfInBounds_toArray, List.set_cons_zero, List.set_cons_succ, i64_w, i32_w]
                rfl
              refine done_ (done_of HT_.out (by kernel_rfl)) ?_
              have HB := Aside0.mk (below_step ZB.out hHeld)
              have BK0 := Aside0.mk (blk_below Z0.out hHeld)
              have BK1 := Aside0.mk (blk_below Z1.out hHeld)
              clear Z0 Z1 ZB hHeld
              go_wp2
              go_roundg k1
              case measure => omega
              case rel => exact ⟨j + 1, by rw [SS2.out], rfl, ⟨by omega, by have := HJ.out.2; omega⟩, HB, BK0, BK1⟩
        · have hjb : decide ((j : Int) < 128) = false := decide_eq_false (by omega)
          obtain rfl : j = 128 := by omega
          rw [HLL.out]
          have HE := HEE.out
          go_wp2
          refine start2 (n := 28) #[false, false, false, false, false, false, false, false, false, false, false, false, false, false, false, false, false, false, false, false, false, false, false, false, false, false, false, false] (by kernel_rfl) rfl rfl (fun W0 hW0 hHeld => ?_)
          have Z0 : Aside0 (W0.heap[g0]? = some (.cells cs0 26 (0, 0))) := ⟨by rw [hW0]; exact blk_drew BK0.out⟩
          have Z1 : Aside0 (W0.heap[g1]? = some (.cells cs1 26 (0, 0))) := ⟨by rw [hW0]; exact blk_drew BK1.out⟩
          have ZB : Aside0 (Below w.heap.size w W0) := ⟨by rw [hW0]; exact below_drew1 HB.out⟩
          clear hW0 BK0 BK1 HB
          refine with_tabW sa11.tab sa11.bits (fun HT_ HW_ => ?_)
          refine pure_ (i := 0) (N := some 47) (v := ?_) (a' := ?_) #[true, false, false, false, false, false, false, false, false, false, false, false, false, false, false, false, false, false, false, false, false, false, false, false, false, false, false, false] rfl rfl (any_of HT_.out (by kernel_rfl)) (fun _ _ _ h => h) (Or.inl ⟨by rfl, ?_⟩) ?_ ?_
          rotate_left
          · intro w'
            go_simp
            with_reducible rfl
          rotate_left
          · simp only [Act.put, List.setIfInBounds_toArray, List.set_cons_zero, List.set_cons_succ, i64_w, i32_w]
            rfl
          refine pure_ (i := 1) (N := some 48) (v := ?_) (a' := ?_) #[true, true, false, false, false, false, false, false, false, false, false, false, false, false, false, false, false, false, false, false, false, false, false, false, false, false, false, false] rfl rfl (any_of HT_.out (by kernel_rfl)) (fun _ _ _ h => h) (Or.inl ⟨by rfl, ?_⟩) ?_ ?_
          rotate_left
          · intro w'
            go_simp
            with_reducible rfl
          rotate_left
          · simp only [Act.put, List.setIfInBounds_toArray, List.set_cons_zero, List.set_cons_succ, i64_w, i32_w]
            rfl
          refine pure_ (i := 3) (N := some 50) (v := ?_) (a' := ?_) #[true, true, false, true, false, false, false, false, false, false, false, false, false, false, false, false, false, false, false, false, false, false, false, false, false, false, false, false] rfl rfl (any_of HT_.out (by kernel_rfl)) (fun _ _ _ h => h) (Or.inl ⟨by rfl, ?_⟩) ?_ ?_
          rotate_left
          · intro w'
            go_simp
            with_reducible rfl
          rotate_left
          · simp only [Act.put, List.setIfInBounds_toArray, List.set_cons_zero, List.set_cons_succ, i64_w, i32_w]
            rfl
          refine take_ (i := 2) (N := some 49) (v := _) (a' := ?_) #[true, true, true, true, false, false, false, false, false, false, false, false, false, false, false, false, false, false, false, false, false, false, false, false, false, false, false, false] rfl rfl (take_ofW HT_.out HW_.out (by kernel_rfl)) (fun _ _ _ h => h) (yields_part 24 (.tmp 48) g0 P0 cs0 26 _ Z0.out PI0.out Try.underlying24 rfl IP0.out (by rfl) rfl rfl) hHeld ?_ ?_
          rotate_left
          · simp only [Act.put, List.setIfInBounds_toArray, List.set_cons_zero, List.set_cons_succ, i64_w, i32_w]
            rfl
          refine take_ (i := 4) (N := some 51) (v := _) (a' := ?_) #[true, true, true, true, true, false, false, false, false, false, false, false, false, false, false, false, false, false, false, false, false, false, false, false, false, false, false, false] rfl rfl (take_ofW HT_.out HW_.out (by kernel_rfl)) (fun _ _ _ h => h) (yields_part 24 (.tmp 50) g1 P1 cs1 26 _ Z1.out PI1.out Try.underlying24 rfl IP1.out (by rfl) rfl rfl) hHeld ?_ ?_
          rotate_left
          · simp only [Act.put, List.setIfInBounds_toArray, List.set_cons_zero, List.set_cons_succ, i64_w, i32_w]
            rfl
          refine pure_ (i := 5) (N := some 52) (v := ?_) (a' := ?_) #[true, true, true, true, true, true, false, false, false, false, false, false, false, false, false, false, false, false, false, false, false, false, false, false, false, false, false, false] rfl rfl (any_of HT_.out (by kernel_rfl)) (fun _ _ _ h => h) (Or.inl ⟨by rfl, ?_⟩) ?_ ?_
          rotate_left
          · intro w'
            go_simp
            with_reducible rfl
          rotate_left
          · simp only [Act.put, List.setIfInBounds_toArray, List.set_cons_zero, List.set_cons_succ, i64_w, i32_w]
            rfl
          refine pure_ (i := 6) (N := some 53) (v := ?_) (a' := ?_) #[true, true, true, true, true, true, true, false, false, false, false, false, false, false, false, false, false, false, false, false, false, false, false, false, false, false, false, false] rfl rfl (any_of HT_.out (by kernel_rfl)) (fun _ _ _ h => h) (Or.inl ⟨by rfl, ?_⟩) ?_ ?_
          rotate_left
          · intro w'
            go_simp
            with_reducible rfl
          rotate_left
          · simp only [Act.put, List.setIfInBounds_toArray, List.set_cons_zero, List.set_cons_succ, i64_w, i32_w]
            rfl
          refine pure_ (i := 7) (N := some 54) (v := ?_) (a' := ?_) #[true, true, true, true, true, true, true, true, false, false, false, false, false, false, false, false, false, false, false, false, false, false, false, false, false, false, false, false] rfl rfl (any_of HT_.out (by kernel_rfl)) (fun _ _ _ h => h) (Or.inl ⟨by rfl, ?_⟩) ?_ ?_
          rotate_left
          · intro w'
            go_simp
            with_reducible rfl
          rotate_left
          · simp only [Act.put, List.setIfInBounds_toArray, List.set_cons_zero, List.set_cons_succ, i64_w, i32_w]
            rfl
          refine pure_ (i := 9) (N := some 56) (v := ?_) (a' := ?_) #[true, true, true, true, true, true, true, true, false, true, false, false, false, false, false, false, false, false, false, false, false, false, false, false, false, false, false, false] rfl rfl (any_of HT_.out (by kernel_rfl)) (fun _ _ _ h => h) (Or.inl ⟨by rfl, ?_⟩) ?_ ?_
          rotate_left
          · intro w'
            go_simp
            with_reducible rfl
          rotate_left
          · simp only [Act.put, List.setIfInBounds_toArray, List.set_cons_zero, List.set_cons_succ, i64_w, i32_w]
            rfl
          refine pure_ (i := 12) (N := some 59) (v := ?_) (a' := ?_) #[true, true, true, true, true, true, true, true, false, true, false, false, true, false, false, false, false, false, false, false, false, false, false, false, false, false, false, false] rfl rfl (any_of HT_.out (by kernel_rfl)) (fun _ _ _ h => h) (Or.inl ⟨by rfl, ?_⟩) ?_ ?_
          rotate_left
          · intro w'
            go_simp
            with_reducible rfl
          rotate_left
          · simp only [Act.put, List.setIfInBounds_toArray, List.set_cons_zero, List.set_cons_succ, i64_w, i32_w]
            rfl
          refine pure_ (i := 13) (N := some 60) (v := ?_) (a' := ?_) #[true, true, true, true, true, true, true, true, false, true, false, false, true, true, false, false, false, false, false, false, false, false, false, false, false, false, false, false] rfl rfl (any_of HT_.out (by kernel_rfl)) (fun _ _ _ h => h) (Or.inl ⟨by rfl, ?_⟩) ?_ ?_
          rotate_left
          · intro w'
            go_simp
            with_reducible rfl
          rotate_left
          · simp only [Act.put, List.setIfInBounds_toArray, List.set_cons_zero, List.set_cons_succ, i64_w, i32_w]
            rfl
          refine take_ (i := 8) (N := some 55) (v := _) (a' := ?_) #[true, true, true, true, true, true, true, true, true, true, false, false, true, true, false, false, false, false, false, false, false, false, false, false, false, false, false, false] rfl rfl (take_ofW HT_.out HW_.out (by kernel_rfl)) (fun _ _ _ h => h) (yields_row 26 (.tmp 7) g0 cs0 26 (0, 0) _ Z0.out Try.underlying26 rfl I0.out (by rfl) rfl rfl) hHeld ?_ ?_
          rotate_left
          · simp only [Act.put, List.setIfInBounds_toArray, List.set_cons_zero, List.set_cons_succ, i64_w, i32_w]
            rfl
          refine take_ (i := 11) (N := some 58) (v := _) (a' := ?_) #[true, true, true, true, true, true, true, true, true, true, false, true, true, true, false, false, false, false, false, false, false, false, false, false, false, false, false, false] rfl rfl (take_ofW HT_.out HW_.out (by kernel_rfl)) (fun _ _ _ h => h) (yields_row 26 (.tmp 7) g0 cs0 26 (0, 0) _ Z0.out Try.underlying26 rfl I0.out (by rfl) rfl rfl) hHeld ?_ ?_
          rotate_left
          · simp only [Act.put, List.setIfInBounds_toArray, List.set_cons_zero, List.set_cons_succ, i64_w, i32_w]
            rfl
          refine one_ (i := 10) (N := some 57) #[true, true, true, true, true, true, true, true, true, true, true, true, true, true, false, false, false, false, false, false, false, false, false, false, false, false, false, false] rfl rfl (one_of HT_.out (by kernel_rfl)) (by decide) (fun K hK => ?_)
          refine goes_ Try.func15 (by kernel_rfl) rfl #[.agg cs0, .int .i64 n] (by rfl) rfl rfl (by (try simp only [List.map_toArray, List.map_cons, List.map_nil]); first | done | rfl | (simp only [List.length_drop, List.length_take]; rfl)) ?_
          with_reducible refine (SN.out _).mono ?_
          rintro e w1 ⟨rfl, hb⟩
          refine ⟨_, rfl, ?_⟩
          have hHeld2 := below_step hHeld hb
          clear hHeld hb
          refine hK.out _ _ hHeld2 (fun hHeld => ?_)
          clear hK K hHeld2
          refine norm_ (a' := ?_) ?_ ?_
          rotate_left
          · show Act.put _ (some 57) _ = _
            simp only [Act.put, List.setIfInBounds_toArray, List.set_cons_zero, List.set_cons_succ, i64_w, i32_w]
            rfl
          refine one_ (i := 14) (N := some 61) #[true, true, true, true, true, true, true, true, true, true, true, true, true, true, true, false, false, false, false, false, false, false, false, false, false, false, false, false] rfl rfl (one_of HT_.out (by kernel_rfl)) (by decide) (fun K hK => ?_)
          refine goes_ Try.func15 (by kernel_rfl) rfl #[.agg cs0, .int .i64 (wrap64 (n + 128))] (by rfl) rfl rfl (by (try simp only [List.map_toArray, List.map_cons, List.map_nil]); first | done | rfl | (simp only [List.length_drop, List.length_take]; rfl)) ?_
          with_reducible refine (SP.out _).mono ?_
          rintro e w1 ⟨rfl, hb⟩
          refine ⟨_, rfl, ?_⟩
          have hHeld2 := below_step hHeld hb
          clear hHeld hb
          refine hK.out _ _ hHeld2 (fun hHeld => ?_)
          clear hK K hHeld2
          refine norm_ (a' := ?_) ?_ ?_
          rotate_left
          · show Act.put _ (some 61) _ = _
            simp only [Act.put, List.setIfInBounds_toArray, List.set_cons_zero, List.set_cons_succ, i64_w, i32_w]
            rfl
          refine pure_ (i := 15) (N := some 62) (v := ?_) (a' := ?_) #[true, true, true, true, true, true, true, true, true, true, true, true, true, true, true, true, false, false, false, false, false, false, false, false, false, false, false, false] rfl rfl (any_of HT_.out (by kernel_rfl)) (fun _ _ _ h => h) (Or.inl ⟨by rfl, ?_⟩) ?_ ?_
          rotate_left
          · intro w'
            go_simp
            with_reducible rfl
          rotate_left
          · simp only [Act.put, List.setIfInBounds_toArray, List.set_cons_zero, List.set_cons_succ, i64_w, i32_w]
            rfl
          refine pure_ (i := 16) (N := some 63) (v := ?_) (a' := ?_) #[true, true, true, true, true, true, true, true, true, true, true, true, true, true, true, true, true, false, false, false, false, false, false, false, false, false, false, false] rfl rfl (any_of HT_.out (by kernel_rfl)) (fun _ _ _ h => h) (Or.inl ⟨by rfl, ?_⟩) ?_ ?_
          rotate_left
          · intro w'
            go_simp
            with_reducible rfl
          rotate_left
          · simp only [Act.put, List.setIfInBounds_toArray, List.set_cons_zero, List.set_cons_succ, i64_w, i32_w]
            rfl
          refine pure_ (i := 17) (N := some 64) (v := ?_) (a' := ?_) #[true, true, true, true, true, true, true, true, true, true, true, true, true, true, true, true, true, true, false, false, false, false, false, false, false, false, false, false] rfl rfl (any_of HT_.out (by kernel_rfl)) (fun _ _ _ h => h) (Or.inl ⟨by rfl, ?_⟩) ?_ ?_
          rotate_left
          · intro w'
            go_simp
            with_reducible rfl
          rotate_left
          · simp only [Act.put, List.setIfInBounds_toArray, List.set_cons_zero, List.set_cons_succ, i64_w, i32_w]
            rfl
          refine pure_ (i := 19) (N := some 66) (v := ?_) (a' := ?_) #[true, true, true, true, true, true, true, true, true, true, true, true, true, true, true, true, true, true, false, true, false, false, false, false, false, false, false, false] rfl rfl (any_of HT_.out (by kernel_rfl)) (fun _ _ _ h => h) (Or.inl ⟨by rfl, ?_⟩) ?_ ?_
          rotate_left
          · intro w'
            go_simp
            with_reducible rfl
          rotate_left
          · simp only [Act.put, List.setIfInBounds_toArray, List.set_cons_zero, List.set_cons_succ, i64_w, i32_w]
            rfl
          refine pure_ (i := 22) (N := some 69) (v := ?_) (a' := ?_) #[true, true, true, true, true, true, true, true, true, true, true, true, true, true, true, true, true, true, false, true, false, false, true, false, false, false, false, false] rfl rfl (any_of HT_.out (by kernel_rfl)) (fun _ _ _ h => h) (Or.inl ⟨by rfl, ?_⟩) ?_ ?_
          rotate_left
          · intro w'
            go_simp
            with_reducible rfl
          rotate_left
          · simp only [Act.put, List.setIfInBounds_toArray, List.set_cons_zero, List.set_cons_succ, i64_w, i32_w]
            rfl
          refine pure_ (i := 23) (N := some 70) (v := ?_) (a' := ?_) #[true, true, true, true, true, true, true, true, true, true, true, true, true, true, true, true, true, true, false, true, false, false, true, true, false, false, false, false] rfl rfl (any_of HT_.out (by kernel_rfl)) (fun _ _ _ h => h) (Or.inl ⟨by rfl, ?_⟩) ?_ ?_
          rotate_left
          · intro w'
            go_simp
            with_reducible rfl
          rotate_left
          · simp only [Act.put, List.setIfInBounds_toArray, List.set_cons_zero, List.set_cons_succ, i64_w, i32_w]
            rfl
          refine take_ (i := 18) (N := some 65) (v := _) (a' := ?_) #[true, true, true, true, true, true, true, true, true, true, true, true, true, true, true, true, true, true, true, true, false, false, true, true, false, false, false, false] rfl rfl (take_ofW HT_.out HW_.out (by kernel_rfl)) (fun _ _ _ h => h) (yields_row 26 (.tmp 7) g0 cs0 26 (0, 0) _ Z0.out Try.underlying26 rfl I0.out (by rfl) rfl rfl) hHeld ?_ ?_
          rotate_left
          · simp only [Act.put, List.setIfInBounds_toArray, List.set_cons_zero, List.set_cons_succ, i64_w, i32_w]
            rfl
          refine take_ (i := 21) (N := some 68) (v := _) (a' := ?_) #[true, true, true, true, true, true, true, true, true, true, true, true, true, true, true, true, true, true, true, true, false, true, true, true, false, false, false, false] rfl rfl (take_ofW HT_.out HW_.out (by kernel_rfl)) (fun _ _ _ h => h) (yields_row 26 (.tmp 7) g0 cs0 26 (0, 0) _ Z0.out Try.underlying26 rfl I0.out (by rfl) rfl rfl) hHeld ?_ ?_
          rotate_left
          · simp only [Act.put, List.setIfInBounds_toArray, List.set_cons_zero, List.set_cons_succ, i64_w, i32_w]
            rfl
          refine one_ (i := 20) (N := some 67) #[true, true, true, true, true, true, true, true, true, true, true, true, true, true, true, true, true, true, true, true, true, true, true, true, false, false, false, false] rfl rfl (one_of HT_.out (by kernel_rfl)) (by decide) (fun K hK => ?_)
          refine goes_ Try.func15 (by kernel_rfl) rfl #[.agg cs0, .int .i64 n] (by rfl) rfl rfl (by (try simp only [List.map_toArray, List.map_cons, List.map_nil]); first | done | rfl | (simp only [List.length_drop, List.length_take]; rfl)) ?_
          with_reducible refine (SN.out _).mono ?_
          rintro e w1 ⟨rfl, hb⟩
          refine ⟨_, rfl, ?_⟩
          have hHeld2 := below_step hHeld hb
          clear hHeld hb
          refine hK.out _ _ hHeld2 (fun hHeld => ?_)
          clear hK K hHeld2
          refine norm_ (a' := ?_) ?_ ?_
          rotate_left
          · show Act.put _ (some 67) _ = _
            simp only [Act.put, List.setIfInBounds_toArray, List.set_cons_zero, List.set_cons_succ, i64_w, i32_w]
            rfl
          refine one_ (i := 24) (N := some 71) #[true, true, true, true, true, true, true, true, true, true, true, true, true, true, true, true, true, true, true, true, true, true, true, true, true, false, false, false] rfl rfl (one_of HT_.out (by kernel_rfl)) (by decide) (fun K hK => ?_)
          refine goes_ Try.func15 (by kernel_rfl) rfl #[.agg cs0, .int .i64 (wrap64 (n - 256))] (by rfl) rfl rfl (by (try simp only [List.map_toArray, List.map_cons, List.map_nil]); first | done | rfl | (simp only [List.length_drop, List.length_take]; rfl)) ?_
          with_reducible refine (SM.out _).mono ?_
          rintro e w1 ⟨rfl, hb⟩
          refine ⟨_, rfl, ?_⟩
          have hHeld2 := below_step hHeld hb
          clear hHeld hb
          refine hK.out _ _ hHeld2 (fun hHeld => ?_)
          clear hK K hHeld2
          refine norm_ (a' := ?_) ?_ ?_
          rotate_left
          · show Act.put _ (some 71) _ = _
            simp only [Act.put, List.setIfInBounds_toArray, List.set_cons_zero, List.set_cons_succ, i64_w, i32_w]
            rfl
          refine pure_ (i := 25) (N := some 72) (v := ?_) (a' := ?_) #[true, true, true, true, true, true, true, true, true, true, true, true, true, true, true, true, true, true, true, true, true, true, true, true, true, true, false, false] rfl rfl (any_of HT_.out (by kernel_rfl)) (fun _ _ _ h => h) (Or.inl ⟨by rfl, ?_⟩) ?_ ?_
          rotate_left
          · intro w'
            go_simp
            with_reducible rfl
          rotate_left
          · simp only [Act.put, List.setIfInBounds_toArray, List.set_cons_zero, List.set_cons_succ, i64_w, i32_w]
            rfl
          refine pure_ (i := 26) (N := some 73) (v := ?_) (a' := ?_) #[true, true, true, true, true, true, true, true, true, true, true, true, true, true, true, true, true, true, true, true, true, true, true, true, true, true, true, false] rfl rfl (any_of HT_.out (by kernel_rfl)) (fun _ _ _ h => h) (Or.inl ⟨by rfl, ?_⟩) ?_ ?_
          rotate_left
          · intro w'
            go_simp
            with_reducible rfl
          rotate_left
          · simp only [Act.put, List.setIfInBounds_toArray, List.set_cons_zero, List.set_cons_succ, i64_w, i32_w]
            rfl
          refine pure_ (i := 27) (N := some 6) (v := ?_) (a' := ?_) #[true, true, true, true, true, true, true, true, true, true, true, true, true, true, true, true, true, true, true, true, true, true, true, true, true, true, true, true] rfl rfl (any_of HT_.out (by kernel_rfl)) (fun _ _ _ h => h) (Or.inl ⟨by rfl, ?_⟩) ?_ ?_
          rotate_left
          · intro w'
            go_simp
            with_reducible rfl
          rotate_left
          · simp only [Act.put, List.setIfInBounds_toArray, List.set_cons_zero, List.set_cons_succ, i64_w, i32_w]
            rfl
          refine done_ (done_of HT_.out (by kernel_rfl)) ?_
          have HB := Aside0.mk (below_step ZB.out hHeld)
          have BK0 := Aside0.mk (blk_below Z0.out hHeld)
          have BK1 := Aside0.mk (blk_below Z1.out hHeld)
          clear Z0 Z1 ZB hHeld
          go_wp2
          go_ret
          exact ⟨rfl, HB.out⟩
    · have hlb1 : decide (1000 < (bs1.length : Int)) = true := decide_eq_true (by omega)
      clear hr0 hr1 hc0 hc1 hlen hlen1 hb0 hb1
      go_enter Try.func6, Try.ntmps6
      go_wp2_with (first
        | (go_at_call 7; with_reducible refine (awake_calls _).mono ?_; rintro e w1 ⟨rfl, hb⟩; have n0_ := Aside0.mk (below_step (by repeat (first | (with_reducible first | exact HB.out | apply below_alloc | apply pw_below_drewN | apply below_drew1) | exact HB.out)) hb); clear HB hb; have HB := n0_; clear n0_))
      go_ret
      exact ⟨rfl, HB.out⟩
  · have hlb : decide (1000 < (bs0.length : Int)) = true := decide_eq_true (by omega)
    clear hr0 hr1 hc0 hc1 hlen hb0 hb1
    go_enter Try.func6, Try.ntmps6
    go_wp2_with (first
      | (go_at_call 7; with_reducible refine (awake_calls _).mono ?_; rintro e w1 ⟨rfl, hb⟩; have n0_ := Aside0.mk (below_step (by repeat (first | (with_reducible first | exact HB.out | apply below_alloc | apply pw_below_drewN | apply below_drew1) | exact HB.out)) hb); clear HB hb; have HB := n0_; clear n0_))
    go_ret
    exact ⟨rfl, HB.out⟩
end Go.Proofs.Ytgpjnaabbfalkaa
