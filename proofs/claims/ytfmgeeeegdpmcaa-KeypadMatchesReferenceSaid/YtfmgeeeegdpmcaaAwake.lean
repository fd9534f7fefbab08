/- The fixed results that the documentation gives as examples are returned. -/
import Derived.Test.YtfmgeeeegdpmcaaAll
import Derived.Test.YtfmgeeeegdpmcaaLeaf
namespace Go.Proofs.Ytfmgeeeegdpmcaa
open Go.RowKit Go.Proofs.YtfmgeeeegdpmcaaW.PrintWords Go.Proofs.YtfmgeeeegdpmcaaW.PrintLast Go.Proofs.YtfmgeeeegdpmcaaW.PrintMore Go.Proofs.Ytfmgeeeegdpmcaa.PKeypadMatchesReference

set_option linter.unusedVariables false
def evs : List S30 := [⟨5, true⟩, ⟨5, false⟩, ⟨6, false⟩, ⟨16, true⟩, ⟨9, true⟩]
def p9 : List Bool := [false, false, false, false, false, false, false, false, false, true, false, false, false, false, false, false]
theorem p9_eq : padC p9 = #[.bool false, .bool false, .bool false, .bool false, .bool false, .bool false, .bool false, .bool false, .bool false, .bool true, .bool false, .bool false, .bool false, .bool false, .bool false, .bool false] := rfl
theorem p9one : (#[.bool false, .bool false, .bool false, .bool false, .bool false, .bool false, .bool false, .bool false, .bool false, .bool true, .bool false, .bool false, .bool false, .bool false, .bool false, .bool false] : Array Value).all (·.oneCell') = true := padC_one p9
theorem st_evs : st none16 evs 5 = (p9, [5]) := by decide +kernel
theorem lit_reads {W : World} {g : Nat} (h : W.heap[g]? = some (.cells #[.int .i64 5, .bool true, .int .i64 5, .bool false, .int .i64 6, .bool false, .int .i64 16, .bool true, .int .i64 9, .bool true] 30 (0, 0))) : Kd.C k30 W (some ⟨g, 0, none⟩) 5 evs := by
  refine ⟨rfl, by omega, fun _ => ⟨_, rfl, fun j p hj => ⟨[.int .i64 p.f0, .bool p.f1], rfl, k30_mk W p, fun i u hu => ?_⟩⟩⟩
  have hj2 : j < 5 := (List.getElem?_eq_some_iff.1 hj).1
  have hi2 : i < 2 := (List.getElem?_eq_some_iff.1 hu).1
  rw [add_plain]
  refine (blk_cell h _).trans ?_
  have e : k30.sz = 2 := rfl
  rw [e]
  rcases j with _ | _ | _ | _ | _ | j <;> (try omega) <;> (cases hj; rcases i with _ | _ | i <;> (try omega) <;> (cases hu; rfl))
theorem allL (w : World) : Calls Try.prog 10 #[.agg #[.bool false, .bool false, .bool false, .bool false, .bool false, .bool false, .bool false, .bool false, .bool false, .bool false, .bool false, .bool false, .bool false, .bool false, .bool false, .bool false], .slice (some ⟨w.heap.size, 0, none⟩) 5 5] (w.alloc (.cells #[.int .i64 5, .bool true, .int .i64 5, .bool false, .int .i64 6, .bool false, .int .i64 16, .bool true, .int .i64 9, .bool true] 30)) fun e w' => ∃ v : Value, e = .returned (.tuple #[.agg #[.bool false, .bool false, .bool false, .bool false, .bool false, .bool false, .bool false, .bool false, .bool false, .bool true, .bool false, .bool false, .bool false, .bool false, .bool false, .bool false], v]) ∧ Kd.R (Kd.int .i64) 3 w' (w.alloc (.cells #[.int .i64 5, .bool true, .int .i64 5, .bool false, .int .i64 6, .bool false, .int .i64 16, .bool true, .int .i64 9, .bool true] 30)).heap.size (fun _ => True) v [5] ∧ Below (w.alloc (.cells #[.int .i64 5, .bool true, .int .i64 5, .bool false, .int .i64 6, .bool false, .int .i64 16, .bool true, .int .i64 9, .bool true] 30)).heap.size (w.alloc (.cells #[.int .i64 5, .bool true, .int .i64 5, .bool false, .int .i64 6, .bool false, .int .i64 16, .bool true, .int .i64 9, .bool true] 30)) w' := by
  have h := all_calls none16 none16_length (some ⟨w.heap.size, 0, none⟩) 5 evs (w.alloc (.cells #[.int .i64 5, .bool true, .int .i64 5, .bool false, .int .i64 6, .bool false, .int .i64 16, .bool true, .int .i64 9, .bool true] 30)) (lit_reads (heap_alloc_new w _)) (by decide)
  have e5 : evs.length = 5 := rfl
  rw [e5, st_evs] at h
  exact h
theorem one_reads {W : World} {g : Nat} (h : W.heap[g]? = some (.cells #[.int .i64 5] 3 (0, 0))) : Kd.C (Kd.int .i64) W (some ⟨g, 0, none⟩) 1 [5] := by
  refine ⟨rfl, by omega, fun _ => ⟨_, rfl, fun j p hj => ⟨[.int .i64 p], rfl, rfl, fun i u hu => ?_⟩⟩⟩
  have hj2 : j < 1 := (List.getElem?_eq_some_iff.1 hj).1
  have hi2 : i < 1 := (List.getElem?_eq_some_iff.1 hu).1
  rw [add_plain]
  refine (blk_cell h _).trans ?_
  obtain rfl : j = 0 := by omega
  obtain rfl : i = 0 := by omega
  cases hj
  cases hu
  rfl
theorem num_tells : cosmacref03_Numbers.f 3 [5] [5] = some true := by decide +kernel
theorem numL (A : Option Addr) (c : Nat) (g : Nat) (w : World) (h0 : Kd.C (Kd.int .i64) w A 1 [5]) (hc : 1 ≤ c) (h : w.heap[g]? = some (.cells #[.int .i64 5] 3 (0, 0))) : Calls Try.prog 12 #[.slice A 1 c, .slice (some ⟨g, 0, none⟩) 1 1] w fun e w' => e = .returned (.bool true) ∧ Below w.heap.size w w' :=
  (cosmacref03_Numbers.calls 3 A c [5] (some ⟨g, 0, none⟩) 1 [5] true w h0 hc (one_reads h) (Nat.le_refl _) num_tells).mono (fun e w' ⟨he, hw⟩ => ⟨he, hw.below⟩)
theorem isL (n : Int) (b : Bool) (h : isd p9 n = b) (w : World) : Calls Try.prog 15 #[.agg #[.bool false, .bool false, .bool false, .bool false, .bool false, .bool false, .bool false, .bool false, .bool false, .bool true, .bool false, .bool false, .bool false, .bool false, .bool false, .bool false], .int .i64 n] w fun e w' => e = .returned (.bool b) ∧ Below w.heap.size w w' := h ▸ isdown_calls p9 rfl n w
theorem lowL9 (w : World) : Calls Try.prog 14 #[.agg #[.bool false, .bool false, .bool false, .bool false, .bool false, .bool false, .bool false, .bool false, .bool false, .bool true, .bool false, .bool false, .bool false, .bool false, .bool false, .bool false]] w fun e w' => e = .returned (.int .i64 9) ∧ Below w.heap.size w w' := by
  have h : lowF p9 16 = 9 := by decide +kernel
  exact h ▸ lowest_calls p9 rfl w
theorem lowL0 (w : World) : Calls Try.prog 14 #[.agg #[.bool false, .bool false, .bool false, .bool false, .bool false, .bool false, .bool false, .bool false, .bool false, .bool false, .bool false, .bool false, .bool false, .bool false, .bool false, .bool false]] w fun e w' => e = .returned (.int .i64 (-1)) ∧ Below w.heap.size w w' := by
  have h : lowF none16 16 = -1 := by decide +kernel
  exact h ▸ lowest_calls none16 rfl w

set_option maxRecDepth 100000 in
set_option maxHeartbeats 4000000 in
theorem awake_calls (w : World) : Calls Try.prog 7 #[] w fun e w' => e = .returned (.bool true) ∧ Below w.heap.size w w' := by
  have HB := Aside0.mk (Below.refl w.heap.size w)
  have IP : Hid ((Try.prog.info? 26).map (·.size) = some (#[.bool false, .bool false, .bool false, .bool false, .bool false, .bool false, .bool false, .bool false, .bool false, .bool true, .bool false, .bool false, .bool false, .bool false, .bool false, .bool false] : Array Value).size) := info26
  have S25 := Lib.hid (isL 25 true (by decide +kernel))
  have S5 := Lib.hid (isL 5 false (by decide +kernel))
  have S7 := Lib.hid (isL (-7) false (by decide +kernel))
  go_enter Try.func7, Try.ntmps7
  go_wp2_with (first
    | (go_at_call 10; refine (allL w).mono ?_; rintro e w1 ⟨v, rfl, hr, hb⟩; obtain ⟨A, c, rfl⟩ := Kd.R_slice hr; have HRV := Aside0.mk hr; have n0_ := Aside0.mk (below_step (by repeat (first | (with_reducible first | exact HB.out | apply below_alloc | apply pw_below_drewN | apply below_drew1) | exact HB.out)) hb); clear HB hb hr; have HB := n0_; clear n0_)
    | ((with_reducible refine gate_dst (N := 1) rfl ?_); refine box_event ?hg (N := 1) ?hd (cs := #[.bool false, .bool false, .bool false, .bool false, .bool false, .bool false, .bool false, .bool false, .bool false, .bool false, .bool false, .bool false, .bool false, .bool false, .bool false, .bool false]) (t := 26) ?hr ?_; (case hd => rfl); (case hg => rfl); (case hr => first | (go_simp; done) | (go_simp; rfl)); intro gP hg w1 hbox hb; have GEBP := Aside0.mk ((by rw [hg]; exact (below_size (by repeat (first | (with_reducible first | exact HB.out | apply below_alloc | apply pw_below_drewN | apply below_drew1) | exact HB.out)))) : w.heap.size ≤ gP); clear hg; have nB_ := Aside0.mk (below_step (by repeat (first | (with_reducible first | exact HB.out | apply below_alloc | apply pw_below_drewN | apply below_drew1) | exact HB.out)) hb); have nRV_ := Aside0.mk (Kd.R_below (by (with_reducible repeat (first | apply Kd.R_alloc | apply Kd.R_drewN | apply Kd.R_drew)); exact HRV.out) hb); clear HB hb; have HB := nB_; clear nB_; clear HRV; have HRV := nRV_; clear nRV_; have BKP := Aside0.mk hbox; clear hbox)
    | ((with_reducible refine gate_store (t := 26) (p := 1) (v := .tmp 12) rfl ?_); refine wpList_store_row rfl 26 (.tmp 1) (.tmp 12) rfl gP (#[.bool false, .bool false, .bool false, .bool false, .bool false, .bool false, .bool false, .bool false, .bool false, .bool true, .bool false, .bool false, .bool false, .bool false, .bool false, .bool false]) rfl rfl 26 _ BKP.out IP.out (by rfl) p9one ?_; have n1_ := Aside0.mk (setRow_heap _ _ _ (#[.bool false, .bool false, .bool false, .bool false, .bool false, .bool false, .bool false, .bool false, .bool false, .bool true, .bool false, .bool false, .bool false, .bool false, .bool false, .bool false]) _ _ BKP.out); have nB_ := Aside0.mk (below_setRow HB.out GEBP.out (#[.bool false, .bool false, .bool false, .bool false, .bool false, .bool false, .bool false, .bool false, .bool false, .bool true, .bool false, .bool false, .bool false, .bool false, .bool false, .bool false])); have nRV_ := Aside0.mk (R_setRow HRV.out BKP.out no26 (#[.bool false, .bool false, .bool false, .bool false, .bool false, .bool false, .bool false, .bool false, .bool false, .bool true, .bool false, .bool false, .bool false, .bool false, .bool false, .bool false])); clear BKP HB HRV; generalize World.setRow _ _ _ = w1 at n1_ nRV_ nB_ ⊢; have BKP := n1_; clear n1_; have HB := nB_; clear nB_; have HRV := nRV_; clear nRV_)
    | (go_at_call 12; refine (numL A c _ _ (Kd.C_alloc (Kd.R_reads' HRV.out).2.2 _) (Kd.R_reads' HRV.out).2.1 (heap_alloc_new w1 _)).mono ?_; rintro e w2 ⟨rfl, hb⟩; have nP_ := Aside0.mk (blk_below (blk_alloc BKP.out _) hb); have n0_ := Aside0.mk (below_step (by repeat (first | (with_reducible first | exact HB.out | apply below_alloc | apply pw_below_drewN | apply below_drew1) | exact HB.out)) hb); clear HB hb BKP HRV; have HB := n0_; have BKP := nP_; clear n0_ nP_)
    | (go_at_call 15; with_reducible refine (S25.out _).mono ?_; rintro e w1 ⟨rfl, hb⟩; have nB_ := Aside0.mk (below_step (by repeat (first | (with_reducible first | exact HB.out | apply below_alloc | apply pw_below_drewN | apply below_drew1) | exact HB.out)) hb); have nrP_ := Aside0.mk (blk_below (by (with_reducible repeat (first | refine blk_drewN ?_ _ | refine blk_drew ?_ | refine blk_alloc ?_ _)); exact BKP.out) hb); clear HB hb; have HB := nB_; clear nB_; clear BKP; have BKP := nrP_; clear nrP_)
    | (go_at_call 15; with_reducible refine (S5.out _).mono ?_; rintro e w1 ⟨rfl, hb⟩; have nB_ := Aside0.mk (below_step (by repeat (first | (with_reducible first | exact HB.out | apply below_alloc | apply pw_below_drewN | apply below_drew1) | exact HB.out)) hb); have nrP_ := Aside0.mk (blk_below (by (with_reducible repeat (first | refine blk_drewN ?_ _ | refine blk_drew ?_ | refine blk_alloc ?_ _)); exact BKP.out) hb); clear HB hb; have HB := nB_; clear nB_; clear BKP; have BKP := nrP_; clear nrP_)
    | (go_at_call 15; with_reducible refine (S7.out _).mono ?_; rintro e w1 ⟨rfl, hb⟩; have nB_ := Aside0.mk (below_step (by repeat (first | (with_reducible first | exact HB.out | apply below_alloc | apply pw_below_drewN | apply below_drew1) | exact HB.out)) hb); have nrP_ := Aside0.mk (blk_below (by (with_reducible repeat (first | refine blk_drewN ?_ _ | refine blk_drew ?_ | refine blk_alloc ?_ _)); exact BKP.out) hb); clear HB hb; have HB := nB_; clear nB_; clear BKP; have BKP := nrP_; clear nrP_)
    | (go_at_call 14; with_reducible refine (lowL9 _).mono ?_; rintro e w1 ⟨rfl, hb⟩; have nB_ := Aside0.mk (below_step (by repeat (first | (with_reducible first | exact HB.out | apply below_alloc | apply pw_below_drewN | apply below_drew1) | exact HB.out)) hb); have nrP_ := Aside0.mk (blk_below (by (with_reducible repeat (first | refine blk_drewN ?_ _ | refine blk_drew ?_ | refine blk_alloc ?_ _)); exact BKP.out) hb); clear HB hb; have HB := nB_; clear nB_; clear BKP; have BKP := nrP_; clear nrP_)
    | (go_at_call 14; with_reducible refine (lowL0 _).mono ?_; rintro e w1 ⟨rfl, hb⟩; have nB_ := Aside0.mk (below_step (by repeat (first | (with_reducible first | exact HB.out | apply below_alloc | apply pw_below_drewN | apply below_drew1) | exact HB.out)) hb); have nrP_ := Aside0.mk (blk_below (by (with_reducible repeat (first | refine blk_drewN ?_ _ | refine blk_drew ?_ | refine blk_alloc ?_ _)); exact BKP.out) hb); clear HB hb; have HB := nB_; clear nB_; clear BKP; have BKP := nrP_; clear nrP_)
    | ((with_reducible refine gate_dst (N := 18) rfl ?_); (try (refine gate_guard (by rfl) ?_; dsimp only)); refine wpList_load_row rfl 26 (.tmp 1) rfl gP rfl 26 (#[.bool false, .bool false, .bool false, .bool false, .bool false, .bool false, .bool false, .bool false, .bool false, .bool true, .bool false, .bool false, .bool false, .bool false, .bool false, .bool false]) (0, 0) _ BKP.out Try.underlying26 rfl IP.out ?_)
    | ((with_reducible refine gate_dst (N := 22) rfl ?_); (try (refine gate_guard (by rfl) ?_; dsimp only)); refine wpList_load_row rfl 26 (.tmp 1) rfl gP rfl 26 (#[.bool false, .bool false, .bool false, .bool false, .bool false, .bool false, .bool false, .bool false, .bool false, .bool true, .bool false, .bool false, .bool false, .bool false, .bool false, .bool false]) (0, 0) _ BKP.out Try.underlying26 rfl IP.out ?_)
    | ((with_reducible refine gate_dst (N := 27) rfl ?_); (try (refine gate_guard (by rfl) ?_; dsimp only)); refine wpList_load_row rfl 26 (.tmp 1) rfl gP rfl 26 (#[.bool false, .bool false, .bool false, .bool false, .bool false, .bool false, .bool false, .bool false, .bool false, .bool true, .bool false, .bool false, .bool false, .bool false, .bool false, .bool false]) (0, 0) _ BKP.out Try.underlying26 rfl IP.out ?_)
    | ((with_reducible refine gate_dst (N := 37) rfl ?_); (try (refine gate_guard (by rfl) ?_; dsimp only)); refine wpList_load_row rfl 26 (.tmp 1) rfl gP rfl 26 (#[.bool false, .bool false, .bool false, .bool false, .bool false, .bool false, .bool false, .bool false, .bool false, .bool true, .bool false, .bool false, .bool false, .bool false, .bool false, .bool false]) (0, 0) _ BKP.out Try.underlying26 rfl IP.out ?_))
  go_ret
  exact ⟨rfl, HB.out⟩
end Go.Proofs.Ytfmgeeeegdpmcaa
