/- AddrMoves: part 2 of the walk, written by gen_addr.py. -/
import Derived.Test.YtpccokimjmmmoaaQAddrMoves0
import Derived.Test.YtpccokimjmmmoaaQAddrMoves1
namespace Go.Proofs.Ytpccokimjmmmoaa.PAddrMoves
open Go.RowKit Go.Proofs.YtpccokimjmmmoaaW.PrintWords Go.Proofs.YtpccokimjmmmoaaW.PrintLast Go.Proofs.YtpccokimjmmmoaaW.PrintMore
attribute [local go_sem] max2_int min2_int max_two min_two max_three min_three max_four min_four   -- for this text's walks alone
set_option linter.unusedVariables false
set_option linter.unusedSimpArgs false

/-! ### cosmaclaw03_AddrMoves: function 5 -/
mutual
def cosmaclaw03_AddrMoves.j0 : Nat → Int → Int → Int → Int → Int → Bool → Option (Bool)
  | 0, _, _, _, _, _, _ => none
  | k + 1, x0, x1, x2, x3, x4, x34 => if x34 = true then ((cosmaclaw03_awake.f k).bind fun t127 => (some t127)) else ((addr_Wrap.f (wrap64 (x0 + x4))).bind fun t128 => ((addr_Wrap.f (wrap64 (x2 + x4))).bind fun t129 => ((cosmacref03_Right.f t128 0).bind fun t130 => (if t130 = true then ((cosmacref03_Right.f t129 0).bind fun t131 => (cosmaclaw03_AddrMoves.j1 k x0 x1 x2 x3 t128 t129 (!t131))) else (cosmaclaw03_AddrMoves.j1 k x0 x1 x2 x3 t128 t129 true)))))
def cosmaclaw03_AddrMoves.j1 : Nat → Int → Int → Int → Int → Int → Int → Bool → Option (Bool)
  | 0, _, _, _, _, _, _, _ => none
  | k + 1, x0, x1, x2, x3, x11, x12, x51 => if x51 = true then (some false) else ((addr_In.f x0 x1 x2).bind fun t132 => ((addr_In.f x11 x1 x12).bind fun t133 => (if (t132 == t133) = true then ((addr_Overlap.f x0 x1 x2 x3).bind fun t134 => ((addr_Overlap.f x11 x1 x12 x3).bind fun t135 => (some (t134 == t135)))) else (some false))))
end
def cosmaclaw03_AddrMoves.f (k : Nat) (a0 : Int) (a1 : Int) (a2 : Int) (a3 : Int) (a4 : Int) : Option (Bool) := (cosmaclaw03_awake.f k).bind fun t124 => (if t124 = true then ((cosmacref03_Right.f a0 a1).bind fun t125 => (if t125 = true then ((cosmacref03_Right.f a2 a3).bind fun t126 => (if t126 = true then (if a4 < (-1000000) then (cosmaclaw03_AddrMoves.j0 k a0 a1 a2 a3 a4 true) else (cosmaclaw03_AddrMoves.j0 k a0 a1 a2 a3 a4 (decide (a4 > 1000000)))) else (cosmaclaw03_AddrMoves.j0 k a0 a1 a2 a3 a4 true))) else (cosmaclaw03_AddrMoves.j0 k a0 a1 a2 a3 a4 true))) else (cosmaclaw03_AddrMoves.j0 k a0 a1 a2 a3 a4 true))
theorem cosmaclaw03_AddrMoves.mono_l : ∀ k, (∀ y0 y1 y2 y3 y4 y5, LeO (cosmaclaw03_AddrMoves.j0 k y0 y1 y2 y3 y4 y5) (cosmaclaw03_AddrMoves.j0 (k + 1) y0 y1 y2 y3 y4 y5)) ∧ (∀ y0 y1 y2 y3 y4 y5 y6, LeO (cosmaclaw03_AddrMoves.j1 k y0 y1 y2 y3 y4 y5 y6) (cosmaclaw03_AddrMoves.j1 (k + 1) y0 y1 y2 y3 y4 y5 y6))
  | 0 => ⟨fun _ _ _ _ _ _ r h => by simp [cosmaclaw03_AddrMoves.j0] at h, fun _ _ _ _ _ _ _ r h => by simp [cosmaclaw03_AddrMoves.j1] at h⟩
  | k + 1 => by
    obtain ⟨ih0, ih1⟩ := cosmaclaw03_AddrMoves.mono_l k
    refine ⟨?_, ?_⟩
    · intro y0 y1 y2 y3 y4 y5
      unfold cosmaclaw03_AddrMoves.j0
      repeat' first
      | (with_reducible exact ih0 _ _ _ _ _ _)
      | (with_reducible exact ih1 _ _ _ _ _ _ _)
      | (with_reducible exact cosmaclaw03_awake.mono _)
      | (with_reducible exact LeO.refl _)
      | (with_reducible exact LeO.none _)
      | (with_reducible refine LeO.ite ?_ ?_)
      | (with_reducible refine LeO.bind ?_ (fun _ => ?_))
      | exact ih0 _ _ _ _ _ _
      | exact ih1 _ _ _ _ _ _ _
      | exact cosmaclaw03_awake.mono _
      | exact LeO.none _
      | refine LeO.ite ?_ ?_
      | refine LeO.bind ?_ (fun _ => ?_)
    · intro y0 y1 y2 y3 y4 y5 y6
      unfold cosmaclaw03_AddrMoves.j1
      repeat' first
      | (with_reducible exact ih0 _ _ _ _ _ _)
      | (with_reducible exact ih1 _ _ _ _ _ _ _)
      | (with_reducible exact cosmaclaw03_awake.mono _)
      | (with_reducible exact LeO.refl _)
      | (with_reducible exact LeO.none _)
      | (with_reducible refine LeO.ite ?_ ?_)
      | (with_reducible refine LeO.bind ?_ (fun _ => ?_))
      | exact ih0 _ _ _ _ _ _
      | exact ih1 _ _ _ _ _ _ _
      | exact cosmaclaw03_awake.mono _
      | exact LeO.none _
      | refine LeO.ite ?_ ?_
      | refine LeO.bind ?_ (fun _ => ?_)
theorem cosmaclaw03_AddrMoves.mono : ∀ a0 a1 a2 a3 a4 k, LeO (cosmaclaw03_AddrMoves.f k a0 a1 a2 a3 a4) (cosmaclaw03_AddrMoves.f (k + 1) a0 a1 a2 a3 a4) := by
  intro a0 a1 a2 a3 a4 k
  obtain ⟨ih0, ih1⟩ := cosmaclaw03_AddrMoves.mono_l k
  unfold cosmaclaw03_AddrMoves.f
  repeat' first
      | (with_reducible exact ih0 _ _ _ _ _ _)
      | (with_reducible exact ih1 _ _ _ _ _ _ _)
      | (with_reducible exact cosmaclaw03_awake.mono _)
      | (with_reducible exact LeO.refl _)
      | (with_reducible exact LeO.none _)
      | (with_reducible refine LeO.ite ?_ ?_)
      | (with_reducible refine LeO.bind ?_ (fun _ => ?_))
      | exact ih0 _ _ _ _ _ _
      | exact ih1 _ _ _ _ _ _ _
      | exact cosmaclaw03_awake.mono _
      | exact LeO.none _
      | refine LeO.ite ?_ ?_
      | refine LeO.bind ?_ (fun _ => ?_)
set_option maxHeartbeats 8000000 in
set_option maxRecDepth 100000 in
theorem cosmaclaw03_AddrMoves.calls (k : Nat) (a0 : Int) (a1 : Int) (a2 : Int) (a3 : Int) (a4 : Int) (r : Bool) (w : World) (h : cosmaclaw03_AddrMoves.f k a0 a1 a2 a3 a4 = some r) :
    Calls Try.prog 5 #[.int .i64 a0, .int .i64 a1, .int .i64 a2, .int .i64 a3, .int .i64 a4] w fun e w' => e = .returned (.bool r) ∧ Below w.heap.size w w' := by
  have HB := Aside0.mk (Below.refl w.heap.size w)
  have H : ((cosmaclaw03_awake.f k).bind fun t124 => (if t124 = true then ((cosmacref03_Right.f a0 a1).bind fun t125 => (if t125 = true then ((cosmacref03_Right.f a2 a3).bind fun t126 => (if t126 = true then (if a4 < (-1000000) then (cosmaclaw03_AddrMoves.j0 k a0 a1 a2 a3 a4 true) else (cosmaclaw03_AddrMoves.j0 k a0 a1 a2 a3 a4 (decide (a4 > 1000000)))) else (cosmaclaw03_AddrMoves.j0 k a0 a1 a2 a3 a4 true))) else (cosmaclaw03_AddrMoves.j0 k a0 a1 a2 a3 a4 true))) else (cosmaclaw03_AddrMoves.j0 k a0 a1 a2 a3 a4 true))) = some r := h
  clear h
  have HC6 := Aside0.mk H
  clear H
  go_enter Try.func5, Try.ntmps5
  go_upto_region 1 with (fail)
  go_cut [34] (fun v34 wc => ∃ (kq : Nat) (x34_5 : Bool), v34 = .bool x34_5 ∧ Aside0 (cosmaclaw03_AddrMoves.j0 kq a0 a1 a2 a3 a4 x34_5 = some r) ∧ Aside0 (kq ≤ k) ∧ Aside0 (Below w.heap.size w wc))
  case first =>
    have H := HC6.out
    clear HC6
    replace H := Option.bind_eq_some_iff.mp H
    obtain ⟨t124, A70, H⟩ := H
    replace H : (if t124 = true then ((cosmacref03_Right.f a0 a1).bind fun t125 => (if t125 = true then ((cosmacref03_Right.f a2 a3).bind fun t126 => (if t126 = true then (if a4 < (-1000000) then (cosmaclaw03_AddrMoves.j0 k a0 a1 a2 a3 a4 true) else (cosmaclaw03_AddrMoves.j0 k a0 a1 a2 a3 a4 (decide (a4 > 1000000)))) else (cosmaclaw03_AddrMoves.j0 k a0 a1 a2 a3 a4 true))) else (cosmaclaw03_AddrMoves.j0 k a0 a1 a2 a3 a4 true))) else (cosmaclaw03_AddrMoves.j0 k a0 a1 a2 a3 a4 true)) = some r := H
    have A7 := Aside0.mk A70
    clear A70
    by_cases c8 : t124 = true
    · subst c8
      have H1 : ((cosmacref03_Right.f a0 a1).bind fun t125 => (if t125 = true then ((cosmacref03_Right.f a2 a3).bind fun t126 => (if t126 = true then (if a4 < (-1000000) then (cosmaclaw03_AddrMoves.j0 k a0 a1 a2 a3 a4 true) else (cosmaclaw03_AddrMoves.j0 k a0 a1 a2 a3 a4 (decide (a4 > 1000000)))) else (cosmaclaw03_AddrMoves.j0 k a0 a1 a2 a3 a4 true))) else (cosmaclaw03_AddrMoves.j0 k a0 a1 a2 a3 a4 true))) = some r := by rw [if_pos rfl] at H; exact H
      clear H
      have H := H1
      clear H1
      replace H := Option.bind_eq_some_iff.mp H
      obtain ⟨t125, A90, H⟩ := H
      replace H : (if t125 = true then ((cosmacref03_Right.f a2 a3).bind fun t126 => (if t126 = true then (if a4 < (-1000000) then (cosmaclaw03_AddrMoves.j0 k a0 a1 a2 a3 a4 true) else (cosmaclaw03_AddrMoves.j0 k a0 a1 a2 a3 a4 (decide (a4 > 1000000)))) else (cosmaclaw03_AddrMoves.j0 k a0 a1 a2 a3 a4 true))) else (cosmaclaw03_AddrMoves.j0 k a0 a1 a2 a3 a4 true)) = some r := H
      have A9 := Aside0.mk A90
      clear A90
      by_cases c10 : t125 = true
      · subst c10
        have H1 : ((cosmacref03_Right.f a2 a3).bind fun t126 => (if t126 = true then (if a4 < (-1000000) then (cosmaclaw03_AddrMoves.j0 k a0 a1 a2 a3 a4 true) else (cosmaclaw03_AddrMoves.j0 k a0 a1 a2 a3 a4 (decide (a4 > 1000000)))) else (cosmaclaw03_AddrMoves.j0 k a0 a1 a2 a3 a4 true))) = some r := by rw [if_pos rfl] at H; exact H
        clear H
        have H := H1
        clear H1
        replace H := Option.bind_eq_some_iff.mp H
        obtain ⟨t126, A110, H⟩ := H
        replace H : (if t126 = true then (if a4 < (-1000000) then (cosmaclaw03_AddrMoves.j0 k a0 a1 a2 a3 a4 true) else (cosmaclaw03_AddrMoves.j0 k a0 a1 a2 a3 a4 (decide (a4 > 1000000)))) else (cosmaclaw03_AddrMoves.j0 k a0 a1 a2 a3 a4 true)) = some r := H
        have A11 := Aside0.mk A110
        clear A110
        by_cases c12 : t126 = true
        · subst c12
          have H1 : (if a4 < (-1000000) then (cosmaclaw03_AddrMoves.j0 k a0 a1 a2 a3 a4 true) else (cosmaclaw03_AddrMoves.j0 k a0 a1 a2 a3 a4 (decide (a4 > 1000000)))) = some r := by rw [if_pos rfl] at H; exact H
          clear H
          have H := H1
          clear H1
          by_cases c13 : a4 < (-1000000)
          · rw [if_pos c13] at H
            have c13b0 : decide (a4 < (-1000000)) = true := decide_eq_true c13
            clear c13
            (first | rw [c13b0] | (simp only [i64_w, i32_w]; rw [c13b0]) | skip)
            have H' := Aside0.mk H
            clear H
            go_wp2_with (first | ((with_reducible refine gate_callee (f := 7) rfl ?_); refine goesL_ (some 13) rfl rfl Try.func7 (by kernel_rfl) rfl #[] rfl (by (try simp only [List.map_toArray, List.map_cons, List.map_nil]); first | done | rfl | (simp only [List.length_drop, List.length_take]; rfl)) ?_; (with_reducible refine (cosmaclaw03_awake.calls k  true _ A7.out).mono ?_); rintro e w14 ⟨rfl, hb⟩; refine ⟨_, rfl, ?_⟩; have n0_ := Aside0.mk (below_step (by repeat (first | (with_reducible first | exact HB.out | apply below_alloc | apply pw_below_drewN | apply below_drew1) | exact HB.out)) hb); clear HB; have HB := n0_; clear n0_; (try clear hb); (try clear hb2); (try clear hk); (try clear hi)) | (go_at_call 10; (with_reducible refine (cosmacref03_Right.calls a0 a1 true _ A9.out).mono ?_); rintro e w' ⟨rfl, ⟨nd, rfl⟩⟩) | (go_at_call 10; (with_reducible refine (cosmacref03_Right.calls a2 a3 true _ A11.out).mono ?_); rintro e w' ⟨rfl, ⟨nd, rfl⟩⟩))
            go_meet
            case rel => exact ⟨_, (true), (by first | rfl | (simp; done) | (simp [*]; done)), H', ⟨by first | omega | exact Nat.le_refl _⟩, ⟨by repeat (first | (with_reducible first | exact HB.out | apply below_alloc | apply pw_below_drewN | apply below_drew1) | exact HB.out)⟩⟩
          · rw [if_neg c13] at H
            have c13b0 : decide (a4 < (-1000000)) = false := decide_eq_false c13
            clear c13
            (first | rw [c13b0] | (simp only [i64_w, i32_w]; rw [c13b0]) | skip)
            have H' := Aside0.mk H
            clear H
            go_wp2_with (first | ((with_reducible refine gate_callee (f := 7) rfl ?_); refine goesL_ (some 13) rfl rfl Try.func7 (by kernel_rfl) rfl #[] rfl (by (try simp only [List.map_toArray, List.map_cons, List.map_nil]); first | done | rfl | (simp only [List.length_drop, List.length_take]; rfl)) ?_; (with_reducible refine (cosmaclaw03_awake.calls k  true _ A7.out).mono ?_); rintro e w15 ⟨rfl, hb⟩; refine ⟨_, rfl, ?_⟩; have n0_ := Aside0.mk (below_step (by repeat (first | (with_reducible first | exact HB.out | apply below_alloc | apply pw_below_drewN | apply below_drew1) | exact HB.out)) hb); clear HB; have HB := n0_; clear n0_; (try clear hb); (try clear hb2); (try clear hk); (try clear hi)) | (go_at_call 10; (with_reducible refine (cosmacref03_Right.calls a0 a1 true _ A9.out).mono ?_); rintro e w' ⟨rfl, ⟨nd, rfl⟩⟩) | (go_at_call 10; (with_reducible refine (cosmacref03_Right.calls a2 a3 true _ A11.out).mono ?_); rintro e w' ⟨rfl, ⟨nd, rfl⟩⟩))
            go_meet
            case rel => exact ⟨_, (decide (a4 > 1000000)), (by first | rfl | (simp; done) | (simp [*]; done)), H', ⟨by first | omega | exact Nat.le_refl _⟩, ⟨by repeat (first | (with_reducible first | exact HB.out | apply below_alloc | apply pw_below_drewN | apply below_drew1) | exact HB.out)⟩⟩
        · replace c12 := Bool.eq_false_iff.mpr c12
          subst c12
          have H1 : (cosmaclaw03_AddrMoves.j0 k a0 a1 a2 a3 a4 true) = some r := by rw [if_neg (show ¬ (false = true) by decide)] at H; exact H
          clear H
          have H := H1
          clear H1
          have H' := Aside0.mk H
          clear H
          go_wp2_with (first | ((with_reducible refine gate_callee (f := 7) rfl ?_); refine goesL_ (some 13) rfl rfl Try.func7 (by kernel_rfl) rfl #[] rfl (by (try simp only [List.map_toArray, List.map_cons, List.map_nil]); first | done | rfl | (simp only [List.length_drop, List.length_take]; rfl)) ?_; (with_reducible refine (cosmaclaw03_awake.calls k  true _ A7.out).mono ?_); rintro e w16 ⟨rfl, hb⟩; refine ⟨_, rfl, ?_⟩; have n0_ := Aside0.mk (below_step (by repeat (first | (with_reducible first | exact HB.out | apply below_alloc | apply pw_below_drewN | apply below_drew1) | exact HB.out)) hb); clear HB; have HB := n0_; clear n0_; (try clear hb); (try clear hb2); (try clear hk); (try clear hi)) | (go_at_call 10; (with_reducible refine (cosmacref03_Right.calls a0 a1 true _ A9.out).mono ?_); rintro e w' ⟨rfl, ⟨nd, rfl⟩⟩) | (go_at_call 10; (with_reducible refine (cosmacref03_Right.calls a2 a3 false _ A11.out).mono ?_); rintro e w' ⟨rfl, ⟨nd, rfl⟩⟩))
          go_meet
          case rel => exact ⟨_, (true), (by first | rfl | (simp; done) | (simp [*]; done)), H', ⟨by first | omega | exact Nat.le_refl _⟩, ⟨by repeat (first | (with_reducible first | exact HB.out | apply below_alloc | apply pw_below_drewN | apply below_drew1) | exact HB.out)⟩⟩
      · replace c10 := Bool.eq_false_iff.mpr c10
        subst c10
        have H1 : (cosmaclaw03_AddrMoves.j0 k a0 a1 a2 a3 a4 true) = some r := by rw [if_neg (show ¬ (false = true) by decide)] at H; exact H
        clear H
        have H := H1
        clear H1
        have H' := Aside0.mk H
        clear H
        go_wp2_with (first | ((with_reducible refine gate_callee (f := 7) rfl ?_); refine goesL_ (some 13) rfl rfl Try.func7 (by kernel_rfl) rfl #[] rfl (by (try simp only [List.map_toArray, List.map_cons, List.map_nil]); first | done | rfl | (simp only [List.length_drop, List.length_take]; rfl)) ?_; (with_reducible refine (cosmaclaw03_awake.calls k  true _ A7.out).mono ?_); rintro e w17 ⟨rfl, hb⟩; refine ⟨_, rfl, ?_⟩; have n0_ := Aside0.mk (below_step (by repeat (first | (with_reducible first | exact HB.out | apply below_alloc | apply pw_below_drewN | apply below_drew1) | exact HB.out)) hb); clear HB; have HB := n0_; clear n0_; (try clear hb); (try clear hb2); (try clear hk); (try clear hi)) | (go_at_call 10; (with_reducible refine (cosmacref03_Right.calls a0 a1 false _ A9.out).mono ?_); rintro e w' ⟨rfl, ⟨nd, rfl⟩⟩))
        go_meet
        case rel => exact ⟨_, (true), (by first | rfl | (simp; done) | (simp [*]; done)), H', ⟨by first | omega | exact Nat.le_refl _⟩, ⟨by repeat (first | (with_reducible first | exact HB.out | apply below_alloc | apply pw_below_drewN | apply below_drew1) | exact HB.out)⟩⟩
    · replace c8 := Bool.eq_false_iff.mpr c8
      subst c8
      have H1 : (cosmaclaw03_AddrMoves.j0 k a0 a1 a2 a3 a4 true) = some r := by rw [if_neg (show ¬ (false = true) by decide)] at H; exact H
      clear H
      have H := H1
      clear H1
      have H' := Aside0.mk H
      clear H
      go_wp2_with (first | ((with_reducible refine gate_callee (f := 7) rfl ?_); refine goesL_ (some 13) rfl rfl Try.func7 (by kernel_rfl) rfl #[] rfl (by (try simp only [List.map_toArray, List.map_cons, List.map_nil]); first | done | rfl | (simp only [List.length_drop, List.length_take]; rfl)) ?_; (with_reducible refine (cosmaclaw03_awake.calls k  false _ A7.out).mono ?_); rintro e w18 ⟨rfl, hb⟩; refine ⟨_, rfl, ?_⟩; have n0_ := Aside0.mk (below_step (by repeat (first | (with_reducible first | exact HB.out | apply below_alloc | apply pw_below_drewN | apply below_drew1) | exact HB.out)) hb); clear HB; have HB := n0_; clear n0_; (try clear hb); (try clear hb2); (try clear hk); (try clear hi)))
      go_meet
      case rel => exact ⟨_, (true), (by first | rfl | (simp; done) | (simp [*]; done)), H', ⟨by first | omega | exact Nat.le_refl _⟩, ⟨by repeat (first | (with_reducible first | exact HB.out | apply below_alloc | apply pw_below_drewN | apply below_drew1) | exact HB.out)⟩⟩
  case rest =>
    clear HC6
    try clear c1
    try clear p2
    try clear c5
    try clear c7
    try clear c8
    try clear c10
    try clear c12
    try clear c13
    try clear c13b0
    obtain ⟨kq, x34_5, rfl, HA, HJ5, HB⟩ := hcut
    cases kq with
    | zero => exact absurd HA.out (by simp [cosmaclaw03_AddrMoves.j0])
    | succ kj5 =>
      have H := HA.out
      clear HA
      simp only [cosmaclaw03_AddrMoves.j0] at H
      by_cases c19 : x34_5 = true
      · subst c19
        have H1 : ((cosmaclaw03_awake.f kj5).bind fun t127 => (some t127)) = some r := by rw [if_pos rfl] at H; exact H
        clear H
        have H := H1
        clear H1
        replace H := Option.bind_eq_some_iff.mp H
        obtain ⟨t127, A200, H⟩ := H
        replace H : (some t127) = some r := H
        have A20 := Aside0.mk A200
        clear A200
        obtain rfl := Option.some.inj H
        go_wp2_with (first | ((with_reducible refine gate_callee (f := 7) rfl ?_); refine goesL_ (some 35) rfl rfl Try.func7 (by kernel_rfl) rfl #[] rfl (by (try simp only [List.map_toArray, List.map_cons, List.map_nil]); first | done | rfl | (simp only [List.length_drop, List.length_take]; rfl)) ?_; (with_reducible refine (cosmaclaw03_awake.calls kj5  t127 _ A20.out).mono ?_); rintro e w21 ⟨rfl, hb⟩; refine ⟨_, rfl, ?_⟩; have n0_ := Aside0.mk (below_step (by repeat (first | (with_reducible first | exact HB.out | apply below_alloc | apply pw_below_drewN | apply below_drew1) | exact HB.out)) hb); clear HB; have HB := n0_; clear n0_; (try clear hb); (try clear hb2); (try clear hk); (try clear hi)))
        go_ret
        exact ⟨by first | rfl | (simp [errW_none, errW_some] <;> rfl) | (simp [*, errW_none, errW_some] <;> rfl), by repeat (first | (with_reducible first | exact HB.out | apply below_alloc | apply pw_below_drewN | apply below_drew1) | exact HB.out)⟩
      · replace c19 := Bool.eq_false_iff.mpr c19
        subst c19
        have H1 : ((addr_Wrap.f (wrap64 (a0 + a4))).bind fun t128 => ((addr_Wrap.f (wrap64 (a2 + a4))).bind fun t129 => ((cosmacref03_Right.f t128 0).bind fun t130 => (if t130 = true then ((cosmacref03_Right.f t129 0).bind fun t131 => (cosmaclaw03_AddrMoves.j1 kj5 a0 a1 a2 a3 t128 t129 (!t131))) else (cosmaclaw03_AddrMoves.j1 kj5 a0 a1 a2 a3 t128 t129 true))))) = some r := by rw [if_neg (show ¬ (false = true) by decide)] at H; exact H
        clear H
        have H := H1
        clear H1
        replace H := Option.bind_eq_some_iff.mp H
        obtain ⟨t128, A220, H⟩ := H
        replace H : ((addr_Wrap.f (wrap64 (a2 + a4))).bind fun t129 => ((cosmacref03_Right.f t128 0).bind fun t130 => (if t130 = true then ((cosmacref03_Right.f t129 0).bind fun t131 => (cosmaclaw03_AddrMoves.j1 kj5 a0 a1 a2 a3 t128 t129 (!t131))) else (cosmaclaw03_AddrMoves.j1 kj5 a0 a1 a2 a3 t128 t129 true)))) = some r := H
        have A22 := Aside0.mk A220
        clear A220
        replace H := Option.bind_eq_some_iff.mp H
        obtain ⟨t129, A230, H⟩ := H
        replace H : ((cosmacref03_Right.f t128 0).bind fun t130 => (if t130 = true then ((cosmacref03_Right.f t129 0).bind fun t131 => (cosmaclaw03_AddrMoves.j1 kj5 a0 a1 a2 a3 t128 t129 (!t131))) else (cosmaclaw03_AddrMoves.j1 kj5 a0 a1 a2 a3 t128 t129 true))) = some r := H
        have A23 := Aside0.mk A230
        clear A230
        have HC24 := Aside0.mk H
        clear H
        go_upto_region 5 with (first | ((with_reducible refine gate_callee (f := 8) rfl ?_); refine goesL_ (some 39) rfl rfl Try.func8 (by kernel_rfl) rfl #[.int .i64 (wrap64 (a0 + a4))] rfl (by (try simp only [List.map_toArray, List.map_cons, List.map_nil]); first | done | rfl | (simp only [List.length_drop, List.length_take]; rfl)) ?_; (with_reducible refine (addr_Wrap.calls (wrap64 (a0 + a4)) t128 _ A22.out).mono ?_); rintro e w' ⟨rfl, ⟨nd, rfl⟩⟩; refine ⟨_, rfl, ?_⟩) | ((with_reducible refine gate_callee (f := 8) rfl ?_); refine goesL_ (some 43) rfl rfl Try.func8 (by kernel_rfl) rfl #[.int .i64 (wrap64 (a2 + a4))] rfl (by (try simp only [List.map_toArray, List.map_cons, List.map_nil]); first | done | rfl | (simp only [List.length_drop, List.length_take]; rfl)) ?_; (with_reducible refine (addr_Wrap.calls (wrap64 (a2 + a4)) t129 _ A23.out).mono ?_); rintro e w' ⟨rfl, ⟨nd, rfl⟩⟩; refine ⟨_, rfl, ?_⟩))
        (try simp only [Act.put, List.setIfInBounds_toArray, List.set_cons_zero, List.set_cons_succ])
        go_cut [51] (fun v51 wc => ∃ (kq : Nat) (x51_23 : Bool), v51 = .bool x51_23 ∧ Aside0 (cosmaclaw03_AddrMoves.j1 kq a0 a1 a2 a3 t128 t129 x51_23 = some r) ∧ Aside0 (kq ≤ kj5) ∧ Aside0 (Below w.heap.size w wc))
        case first =>
          have H := HC24.out
          clear HC24
          replace H := Option.bind_eq_some_iff.mp H
          obtain ⟨t130, A250, H⟩ := H
          replace H : (if t130 = true then ((cosmacref03_Right.f t129 0).bind fun t131 => (cosmaclaw03_AddrMoves.j1 kj5 a0 a1 a2 a3 t128 t129 (!t131))) else (cosmaclaw03_AddrMoves.j1 kj5 a0 a1 a2 a3 t128 t129 true)) = some r := H
          have A25 := Aside0.mk A250
          clear A250
          by_cases c26 : t130 = true
          · subst c26
            have H1 : ((cosmacref03_Right.f t129 0).bind fun t131 => (cosmaclaw03_AddrMoves.j1 kj5 a0 a1 a2 a3 t128 t129 (!t131))) = some r := by rw [if_pos rfl] at H; exact H
            clear H
            have H := H1
            clear H1
            replace H := Option.bind_eq_some_iff.mp H
            obtain ⟨t131, A270, H⟩ := H
            replace H : (cosmaclaw03_AddrMoves.j1 kj5 a0 a1 a2 a3 t128 t129 (!t131)) = some r := H
            have A27 := Aside0.mk A270
            clear A270
            have H' := Aside0.mk H
            clear H
            go_wp2_with (first | ((with_reducible refine gate_callee (f := 10) rfl ?_); refine goesL_ (some 45) rfl rfl Try.func10 (by kernel_rfl) rfl #[.int .i64 t128, .int .i64 0] rfl (by (try simp only [List.map_toArray, List.map_cons, List.map_nil]); first | done | rfl | (simp only [List.length_drop, List.length_take]; rfl)) ?_; (with_reducible refine (cosmacref03_Right.calls t128 0 true _ A25.out).mono ?_); rintro e w' ⟨rfl, ⟨nd, rfl⟩⟩; refine ⟨_, rfl, ?_⟩) | (go_at_call 10; (with_reducible refine (cosmacref03_Right.calls t129 0 t131 _ A27.out).mono ?_); rintro e w' ⟨rfl, ⟨nd, rfl⟩⟩))
            go_meet
            case rel => exact ⟨_, (!t131), (by first | rfl | (simp; done) | (simp [*]; done)), H', ⟨by have := HJ5.out; first | omega | exact Nat.le_refl _⟩, ⟨by repeat (first | (with_reducible first | exact HB.out | apply below_alloc | apply pw_below_drewN | apply below_drew1) | exact HB.out)⟩⟩
          · replace c26 := Bool.eq_false_iff.mpr c26
            subst c26
            have H1 : (cosmaclaw03_AddrMoves.j1 kj5 a0 a1 a2 a3 t128 t129 true) = some r := by rw [if_neg (show ¬ (false = true) by decide)] at H; exact H
            clear H
            have H := H1
            clear H1
            have H' := Aside0.mk H
            clear H
            go_wp2_with (first | ((with_reducible refine gate_callee (f := 10) rfl ?_); refine goesL_ (some 45) rfl rfl Try.func10 (by kernel_rfl) rfl #[.int .i64 t128, .int .i64 0] rfl (by (try simp only [List.map_toArray, List.map_cons, List.map_nil]); first | done | rfl | (simp only [List.length_drop, List.length_take]; rfl)) ?_; (with_reducible refine (cosmacref03_Right.calls t128 0 false _ A25.out).mono ?_); rintro e w' ⟨rfl, ⟨nd, rfl⟩⟩; refine ⟨_, rfl, ?_⟩))
            go_meet
            case rel => exact ⟨_, (true), (by first | rfl | (simp; done) | (simp [*]; done)), H', ⟨by have := HJ5.out; first | omega | exact Nat.le_refl _⟩, ⟨by repeat (first | (with_reducible first | exact HB.out | apply below_alloc | apply pw_below_drewN | apply below_drew1) | exact HB.out)⟩⟩
        case rest =>
          clear HC24
          try clear c1
          try clear c2
          try clear p2
          try clear c5
          try clear p6
          try clear c7
          try clear c8
          try clear c10
          try clear c12
          try clear c13
          try clear c13b0
          try clear c19
          try clear c26
          try clear p2
          obtain ⟨kq, x51_23, rfl, HA, HJ23, HB⟩ := hcut
          cases kq with
          | zero => exact absurd HA.out (by simp [cosmaclaw03_AddrMoves.j1])
          | succ kj23 =>
            have H := HA.out
            clear HA
            simp only [cosmaclaw03_AddrMoves.j1] at H
            by_cases c28 : x51_23 = true
            · subst c28
              have H1 : (some false) = some r := by rw [if_pos rfl] at H; exact H
              clear H
              have H := H1
              clear H1
              obtain rfl := Option.some.inj H
              go_wp2
              go_ret
              exact ⟨by first | rfl | (simp [errW_none, errW_some] <;> rfl) | (simp [*, errW_none, errW_some] <;> rfl), by repeat (first | (with_reducible first | exact HB.out | apply below_alloc | apply pw_below_drewN | apply below_drew1) | exact HB.out)⟩
            · replace c28 := Bool.eq_false_iff.mpr c28
              subst c28
              have H1 : ((addr_In.f a0 a1 a2).bind fun t132 => ((addr_In.f t128 a1 t129).bind fun t133 => (if (t132 == t133) = true then ((addr_Overlap.f a0 a1 a2 a3).bind fun t134 => ((addr_Overlap.f t128 a1 t129 a3).bind fun t135 => (some (t134 == t135)))) else (some false)))) = some r := by rw [if_neg (show ¬ (false = true) by decide)] at H; exact H
              clear H
              have H := H1
              clear H1
              replace H := Option.bind_eq_some_iff.mp H
              obtain ⟨t132, A290, H⟩ := H
              replace H : ((addr_In.f t128 a1 t129).bind fun t133 => (if (t132 == t133) = true then ((addr_Overlap.f a0 a1 a2 a3).bind fun t134 => ((addr_Overlap.f t128 a1 t129 a3).bind fun t135 => (some (t134 == t135)))) else (some false))) = some r := H
              have A29 := Aside0.mk A290
              clear A290
              replace H := Option.bind_eq_some_iff.mp H
              obtain ⟨t133, A300, H⟩ := H
              replace H : (if (t132 == t133) = true then ((addr_Overlap.f a0 a1 a2 a3).bind fun t134 => ((addr_Overlap.f t128 a1 t129 a3).bind fun t135 => (some (t134 == t135)))) else (some false)) = some r := H
              have A30 := Aside0.mk A300
              clear A300
              by_cases c31 : (t132 == t133) = true
              · rw [if_pos c31] at H
                have c31b0 : (t132 == t133) = true := c31
                (try (have c31b1 : decide (t132 = t133) = true := by simpa using c31))
                (try (have c31b2 : (t132 == t133) = true := by simpa using c31))
                clear c31
                replace H := Option.bind_eq_some_iff.mp H
                obtain ⟨t134, A320, H⟩ := H
                replace H : ((addr_Overlap.f t128 a1 t129 a3).bind fun t135 => (some (t134 == t135))) = some r := H
                have A32 := Aside0.mk A320
                clear A320
                replace H := Option.bind_eq_some_iff.mp H
                obtain ⟨t135, A330, H⟩ := H
                replace H : (some (t134 == t135)) = some r := H
                have A33 := Aside0.mk A330
                clear A330
                obtain rfl := Option.some.inj H
                go_wp2_with (first | ((with_reducible refine gate_callee (f := 12) rfl ?_); refine goesL_ (some 55) rfl rfl Try.func12 (by kernel_rfl) rfl #[.int .i64 a0, .int .i64 a1, .int .i64 a2] rfl (by (try simp only [List.map_toArray, List.map_cons, List.map_nil]); first | done | rfl | (simp only [List.length_drop, List.length_take]; rfl)) ?_; (with_reducible refine (addr_In.calls a0 a1 a2 t132 _ A29.out).mono ?_); rintro e w' ⟨rfl, ⟨nd, rfl⟩⟩; refine ⟨_, rfl, ?_⟩) | ((with_reducible refine gate_callee (f := 12) rfl ?_); refine goesL_ (some 59) rfl rfl Try.func12 (by kernel_rfl) rfl #[.int .i64 t128, .int .i64 a1, .int .i64 t129] rfl (by (try simp only [List.map_toArray, List.map_cons, List.map_nil]); first | done | rfl | (simp only [List.length_drop, List.length_take]; rfl)) ?_; (with_reducible refine (addr_In.calls t128 a1 t129 t133 _ A30.out).mono ?_); rintro e w' ⟨rfl, ⟨nd, rfl⟩⟩; refine ⟨_, rfl, ?_⟩) | (go_at_call 17; (with_reducible refine (addr_Overlap.calls a0 a1 a2 a3 t134 _ A32.out).mono ?_); rintro e w' ⟨rfl, ⟨nd, rfl⟩⟩) | (go_at_call 17; (with_reducible refine (addr_Overlap.calls t128 a1 t129 a3 t135 _ A33.out).mono ?_); rintro e w' ⟨rfl, ⟨nd, rfl⟩⟩))
                go_ret
                exact ⟨by first | rfl | (simp [errW_none, errW_some] <;> rfl) | (simp [*, errW_none, errW_some] <;> rfl), by repeat (first | (with_reducible first | exact HB.out | apply below_alloc | apply pw_below_drewN | apply below_drew1) | exact HB.out)⟩
              · rw [if_neg c31] at H
                have c31b0 : (t132 == t133) = false := by simpa using c31
                (try (have c31b1 : decide (t132 = t133) = false := by simpa using c31))
                (try (have c31b2 : (t132 == t133) = false := by simpa using c31))
                (try (have c31b3 : ¬ (t132 = t133) := by simpa using c31))
                clear c31
                obtain rfl := Option.some.inj H
                go_wp2_with (first | ((with_reducible refine gate_callee (f := 12) rfl ?_); refine goesL_ (some 55) rfl rfl Try.func12 (by kernel_rfl) rfl #[.int .i64 a0, .int .i64 a1, .int .i64 a2] rfl (by (try simp only [List.map_toArray, List.map_cons, List.map_nil]); first | done | rfl | (simp only [List.length_drop, List.length_take]; rfl)) ?_; (with_reducible refine (addr_In.calls a0 a1 a2 t132 _ A29.out).mono ?_); rintro e w' ⟨rfl, ⟨nd, rfl⟩⟩; refine ⟨_, rfl, ?_⟩) | ((with_reducible refine gate_callee (f := 12) rfl ?_); refine goesL_ (some 59) rfl rfl Try.func12 (by kernel_rfl) rfl #[.int .i64 t128, .int .i64 a1, .int .i64 t129] rfl (by (try simp only [List.map_toArray, List.map_cons, List.map_nil]); first | done | rfl | (simp only [List.length_drop, List.length_take]; rfl)) ?_; (with_reducible refine (addr_In.calls t128 a1 t129 t133 _ A30.out).mono ?_); rintro e w' ⟨rfl, ⟨nd, rfl⟩⟩; refine ⟨_, rfl, ?_⟩))
                go_ret
                exact ⟨by first | rfl | (simp [errW_none, errW_some] <;> rfl) | (simp [*, errW_none, errW_some] <;> rfl), by repeat (first | (with_reducible first | exact HB.out | apply below_alloc | apply pw_below_drewN | apply below_drew1) | exact HB.out)⟩

/-- THE ONE PURE STATEMENT of cosmaclaw03_AddrMoves: yours. -/
def cosmaclaw03_AddrMoves.Pure : Prop := ∀ (a0 : Int) (a1 : Int) (a2 : Int) (a3 : Int) (a4 : Int), (Lit.int .i64 a0).wf = true → (Lit.int .i64 a1).wf = true → (Lit.int .i64 a2).wf = true → (Lit.int .i64 a3).wf = true → (Lit.int .i64 a4).wf = true → ∃ k, cosmaclaw03_AddrMoves.f k a0 a1 a2 a3 a4 = some true
theorem cosmaclaw03_AddrMoves.walk (P : cosmaclaw03_AddrMoves.Pure) (a0 : Int) (a1 : Int) (a2 : Int) (a3 : Int) (a4 : Int) (w : World) (w0 : (Lit.int .i64 a0).wf = true) (w1 : (Lit.int .i64 a1).wf = true) (w2 : (Lit.int .i64 a2).wf = true) (w3 : (Lit.int .i64 a3).wf = true) (w4 : (Lit.int .i64 a4).wf = true) :
    Calls Try.prog 5 #[.int .i64 a0, .int .i64 a1, .int .i64 a2, .int .i64 a3, .int .i64 a4] w fun e w' => e = .returned (.bool true) ∧ Below w.heap.size w w' := by
  obtain ⟨k, h⟩ := P a0 a1 a2 a3 a4 w0 w1 w2 w3 w4
  refine (cosmaclaw03_AddrMoves.calls k a0 a1 a2 a3 a4 true w h).mono ?_
  rintro e w' ⟨rfl, hd⟩
  exact ⟨rfl, hd⟩

end Go.Proofs.Ytpccokimjmmmoaa.PAddrMoves
