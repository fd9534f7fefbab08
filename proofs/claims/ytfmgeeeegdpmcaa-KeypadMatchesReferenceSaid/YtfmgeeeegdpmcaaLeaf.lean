/- keypad.IsDown and keypad.Lowest: what they return, for every pad and number. -/
import Derived.Test.YtfmgeeeegdpmcaaApply
namespace Go.Proofs.Ytfmgeeeegdpmcaa
open Go.RowKit Go.Proofs.YtfmgeeeegdpmcaaW.PrintWords Go.Proofs.YtfmgeeeegdpmcaaW.PrintLast Go.Proofs.YtfmgeeeegdpmcaaW.PrintMore Go.Proofs.Ytfmgeeeegdpmcaa.PKeypadMatchesReference

set_option linter.unusedVariables false
/-- IS KEY n, reckoned round, DOWN? -/
def isd (d : List Bool) (n : Int) : Bool := if 0 ≤ n then d.getD (n % 16).toNat false else false
set_option maxRecDepth 100000 in
set_option maxHeartbeats 2000000 in
theorem isdown_calls (d : List Bool) (hd : d.length = 16) (n : Int) (w : World) : Calls Try.prog 15 #[.agg (padC d), .int .i64 n] w fun e w' => e = .returned (.bool (isd d n)) ∧ Below w.heap.size w w' := by
  have HB := Aside0.mk (Below.refl w.heap.size w)
  by_cases hn : 0 ≤ n
  · have hnb : decide (0 ≤ n) = true := decide_eq_true hn
    have ht : n.tmod 16 = n % 16 := Int.tmod_eq_emod_of_nonneg hn
    have e1 : isd d n = d.getD (n % 16).toNat false := by unfold isd; rw [if_pos hn]
    have hx0 : 0 ≤ n % 16 := by omega
    have hx1 : n % 16 < 16 := by omega
    obtain ⟨x, hx⟩ : ∃ x, n % 16 = x := ⟨_, rfl⟩
    rw [hx] at ht e1 hx0 hx1
    have hg := padC_get hd x.toNat (by omega)
    obtain ⟨y, hy⟩ : ∃ y, d.getD x.toNat false = y := ⟨_, rfl⟩
    rw [hy] at e1 hg
    rw [e1]
    clear e1 hy hx
    obtain ⟨cs, hcs⟩ : ∃ cs, padC d = cs := ⟨_, rfl⟩
    rw [hcs] at hg ⊢
    clear hcs
    have HG := Lib.hid hg
    clear hg
    go_enter Try.func15, Try.ntmps15
    go_wp2_with (first
      | ((with_reducible refine gate_dst (N := 2) rfl ?_); refine box_event ?hg (N := 2) ?hd (cs := cs) (t := 26) ?hr ?_; (case hd => rfl); (case hg => rfl); (case hr => first | (go_simp; done) | (go_simp; rfl)); intro gP hg w1 hbox hb; have GEBP := Aside0.mk ((by rw [hg]; exact (below_size (by repeat (first | (with_reducible first | exact HB.out | apply below_alloc | apply pw_below_drewN | apply below_drew1) | exact HB.out)))) : w.heap.size ≤ gP); clear hg; have nB_ := Aside0.mk (below_step (by repeat (first | (with_reducible first | exact HB.out | apply below_alloc | apply pw_below_drewN | apply below_drew1) | exact HB.out)) hb); clear HB hb; have HB := nB_; clear nB_; have BKP := Aside0.mk hbox; clear hbox; have hcP := (blk_cell BKP.out x.toNat).trans HG.out))
    go_ret
    exact ⟨rfl, HB.out⟩
  · have hnb : decide (0 ≤ n) = false := decide_eq_false hn
    have e1 : isd d n = false := by unfold isd; rw [if_neg hn]
    rw [e1]
    obtain ⟨cs, hcs⟩ : ∃ cs, padC d = cs := ⟨_, rfl⟩
    rw [hcs]
    clear hcs e1 hn
    go_enter Try.func15, Try.ntmps15
    go_wp2_with (first
      | ((with_reducible refine gate_dst (N := 2) rfl ?_); refine box_event ?hg (N := 2) ?hd (cs := cs) (t := 26) ?hr ?_; (case hd => rfl); (case hg => rfl); (case hr => first | (go_simp; done) | (go_simp; rfl)); intro gP hg w1 hbox hb; have GEBP := Aside0.mk ((by rw [hg]; exact (below_size (by repeat (first | (with_reducible first | exact HB.out | apply below_alloc | apply pw_below_drewN | apply below_drew1) | exact HB.out)))) : w.heap.size ≤ gP); clear hg; have nB_ := Aside0.mk (below_step (by repeat (first | (with_reducible first | exact HB.out | apply below_alloc | apply pw_below_drewN | apply below_drew1) | exact HB.out)) hb); clear HB hb; have HB := nB_; clear nB_; have BKP := Aside0.mk hbox; clear hbox))
    go_ret
    exact ⟨rfl, HB.out⟩

/-- The first key that is down, from 16 - m on; -1 if there is none. -/
def lowF (d : List Bool) : Nat → Int
  | 0 => -1
  | m + 1 => if d.getD (15 - m) false = true then ((15 - m : Nat) : Int) else lowF d m
theorem index_loop (d : List Bool) (hd : d.length = 16) : ∀ (m k : Nat), m ≤ 16 → m < k → slices_Index_bool_bool.l0 k d true 16 ((16 - m : Nat) : Int) = some (lowF d m)
  | 0, k, _, hk => by
    obtain ⟨k, rfl⟩ : ∃ q, k = q + 1 := ⟨k - 1, by omega⟩
    simp only [slices_Index_bool_bool.l0]
    rw [if_neg (by omega)]
    rfl
  | m + 1, k, hm, hk => by
    obtain ⟨k, rfl⟩ : ∃ q, k = q + 1 := ⟨k - 1, by omega⟩
    have e : (16 - (m + 1) : Nat) = 15 - m := by omega
    rw [e]
    have q1 : ((15 - m : Nat) : Int) < 16 := by omega
    have q2 : 0 ≤ ((15 - m : Nat) : Int) := by omega
    have q3 : ((15 - m : Nat) : Int) < (d.length : Int) := by omega
    have hr : rdOf false d ((15 - m : Nat) : Int) = d.getD (15 - m) false := by unfold rdOf; rw [Int.toNat_natCast]
    have hw : wrap64 (((15 - m : Nat) : Int) + 1) = ((16 - m : Nat) : Int) := by unfold wrap64; omega
    simp only [slices_Index_bool_bool.l0, lowF]
    rw [if_pos q1, if_pos q2, if_pos q3, hr, hw]
    cases d.getD (15 - m) false with
    | true => rfl
    | false => exact index_loop d hd m k (by omega) (by omega)
theorem index_tells (d : List Bool) (hd : d.length = 16) : slices_Index_bool_bool.f 17 d true = some (lowF d 16) := by
  unfold slices_Index_bool_bool.f
  rw [hd]
  exact index_loop d hd 16 17 (by omega) (by omega)
theorem pad_reads {W : World} {g : Nat} {d : List Bool} {t : TypeId} (hd : d.length = 16) (h : W.heap[g]? = some (.cells (padC d) t (0, 0))) : Kd.C Kd.bool W (some ⟨g, 0, none⟩) 16 d :=
  ⟨hd, by omega, fun _ => ⟨_, rfl, fun j p hj => ⟨[.bool p], rfl, rfl, fun i u hu => by
    cases i with
    | succ i => simp at hu
    | zero =>
      have hu : Value.bool p = u := by simpa using hu
      have hj2 : j < d.length := (List.getElem?_eq_some_iff.1 hj).1
      have e : j * Kd.bool.sz + 0 = j := by simp [Kd.bool, Kd.scalar]
      rw [e, add_plain, ← hu]
      refine (blk_cell h j).trans ?_
      rw [padC_get hd j (by omega), List.getD_eq_getElem?_getD, hj]
      rfl⟩⟩⟩
theorem index_calls (d : List Bool) (hd : d.length = 16) (g : Nat) (w : World) (h : w.heap[g]? = some (.cells (padC d) 26 (0, 0))) : Calls Try.prog 17 #[.slice (some ⟨g, 0, none⟩) 16 16, .bool true] w fun e w' => e = .returned (.int .i64 (lowF d 16)) ∧ Below w.heap.size w w' := by
  have hc := slices_Index_bool_bool.calls 17 (some ⟨g, 0, none⟩) 16 d true (lowF d 16) w (by rw [hd]; exact pad_reads hd h) (by omega) (index_tells d hd)
  rw [hd] at hc
  exact hc.mono (fun e w' ⟨he, hw⟩ => ⟨he, hw.below⟩)
set_option maxRecDepth 100000 in
set_option maxHeartbeats 2000000 in
theorem lowest_calls (d : List Bool) (hd : d.length = 16) (w : World) : Calls Try.prog 14 #[.agg (padC d)] w fun e w' => e = .returned (.int .i64 (lowF d 16)) ∧ Below w.heap.size w w' := by
  have HB := Aside0.mk (Below.refl w.heap.size w)
  have IC := Lib.hid (fun g w h => index_calls d hd g w h)
  obtain ⟨cs, hcs⟩ : ∃ cs, padC d = cs := ⟨_, rfl⟩
  rw [hcs] at IC ⊢
  obtain ⟨r, hr⟩ : ∃ r, lowF d 16 = r := ⟨_, rfl⟩
  rw [hr] at IC ⊢
  clear hcs hr
  go_enter Try.func14, Try.ntmps14
  go_wp2_with (first
    | ((with_reducible refine gate_dst (N := 1) rfl ?_); refine box_event ?hg (N := 1) ?hd (cs := cs) (t := 26) ?hr ?_; (case hd => rfl); (case hg => rfl); (case hr => first | (go_simp; done) | (go_simp; rfl)); intro gP hg w1 hbox hb; have GEBP := Aside0.mk ((by rw [hg]; exact (below_size (by repeat (first | (with_reducible first | exact HB.out | apply below_alloc | apply pw_below_drewN | apply below_drew1) | exact HB.out)))) : w.heap.size ≤ gP); clear hg; have nB_ := Aside0.mk (below_step (by repeat (first | (with_reducible first | exact HB.out | apply below_alloc | apply pw_below_drewN | apply below_drew1) | exact HB.out)) hb); clear HB hb; have HB := nB_; clear nB_; have BKP := Aside0.mk hbox; clear hbox)
    | (go_at_call 17; with_reducible refine (IC.out gP _ BKP.out).mono ?_; rintro e w1 ⟨rfl, hb⟩; have nB_ := Aside0.mk (below_step (by repeat (first | (with_reducible first | exact HB.out | apply below_alloc | apply pw_below_drewN | apply below_drew1) | exact HB.out)) hb); have nrP_ := Aside0.mk (blk_below (by (with_reducible repeat (first | refine blk_drewN ?_ _ | refine blk_drew ?_ | refine blk_alloc ?_ _)); exact BKP.out) hb); clear HB hb; have HB := nB_; clear nB_; clear BKP; have BKP := nrP_; clear nrP_))
  go_ret
  exact ⟨rfl, HB.out⟩
end Go.Proofs.Ytfmgeeeegdpmcaa
