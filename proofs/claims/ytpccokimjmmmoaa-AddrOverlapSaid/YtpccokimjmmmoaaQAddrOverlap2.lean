/- AddrOverlap: part 2 of the walk, written by gen_addr.py. -/
import Derived.Test.YtpccokimjmmmoaaQAddrOverlap0
import Derived.Test.YtpccokimjmmmoaaQAddrOverlap1
namespace Go.Proofs.Ytpccokimjmmmoaa.PAddrOverlap
open Go.RowKit Go.Proofs.YtpccokimjmmmoaaW.PrintWords Go.Proofs.YtpccokimjmmmoaaW.PrintLast Go.Proofs.YtpccokimjmmmoaaW.PrintMore
attribute [local go_sem] max2_int min2_int max_two min_two max_three min_three max_four min_four   -- for this text's walks alone
set_option linter.unusedVariables false
set_option linter.unusedSimpArgs false

/-! ### cosmaclaw03_AddrOverlap: function 4 -/
mutual
def cosmaclaw03_AddrOverlap.j0 : Nat → Int → Int → Int → Int → Bool → Option (Bool)
  | 0, _, _, _, _, _ => none
  | k + 1, x0, x1, x2, x3, x29 => if x29 = true then ((cosmaclaw03_awake.f k).bind fun t135 => (some t135)) else ((cosmacref03_List.f k x2 x3).bind fun t136 => (cosmaclaw03_AddrOverlap.l0 k x0 x1 x2 x3 false t136 0))
def cosmaclaw03_AddrOverlap.l0 : Nat → Int → Int → Int → Int → Bool → List Int → Int → Option (Bool)
  | 0, _, _, _, _, _, _, _ => none
  | k + 1, x0, x1, x2, x3, x9, x10, x11 => if x11 < (x10.length : Int) then (if x9 = true then (cosmaclaw03_AddrOverlap.l0 k x0 x1 x2 x3 true x10 (wrap64 (x11 + 1))) else (if 0 ≤ x11 then ((cosmacref03_In.f k x0 x1 (rd x10 x11)).bind fun t140 => (cosmaclaw03_AddrOverlap.l0 k x0 x1 x2 x3 t140 x10 (wrap64 (x11 + 1)))) else (none))) else ((addr_Overlap.f x0 x1 x2 x3).bind fun t141 => (if (t141 == x9) = true then ((addr_Overlap.f x2 x3 x0 x1).bind fun t142 => (some (t142 == x9))) else (some false)))
end
def cosmaclaw03_AddrOverlap.f (k : Nat) (a0 : Int) (a1 : Int) (a2 : Int) (a3 : Int) : Option (Bool) := (cosmaclaw03_awake.f k).bind fun t132 => (if t132 = true then ((cosmacref03_Right.f a0 a1).bind fun t133 => (if t133 = true then ((cosmacref03_Right.f a2 a3).bind fun t134 => (if t134 = true then (cosmaclaw03_AddrOverlap.j0 k a0 a1 a2 a3 (decide (a3 > 200))) else (cosmaclaw03_AddrOverlap.j0 k a0 a1 a2 a3 true))) else (cosmaclaw03_AddrOverlap.j0 k a0 a1 a2 a3 true))) else (cosmaclaw03_AddrOverlap.j0 k a0 a1 a2 a3 true))
theorem cosmaclaw03_AddrOverlap.mono_l : ∀ k, (∀ y0 y1 y2 y3 y4, LeO (cosmaclaw03_AddrOverlap.j0 k y0 y1 y2 y3 y4) (cosmaclaw03_AddrOverlap.j0 (k + 1) y0 y1 y2 y3 y4)) ∧ (∀ y0 y1 y2 y3 y4 y5 y6, LeO (cosmaclaw03_AddrOverlap.l0 k y0 y1 y2 y3 y4 y5 y6) (cosmaclaw03_AddrOverlap.l0 (k + 1) y0 y1 y2 y3 y4 y5 y6))
  | 0 => ⟨fun _ _ _ _ _ r h => by simp [cosmaclaw03_AddrOverlap.j0] at h, fun _ _ _ _ _ _ _ r h => by simp [cosmaclaw03_AddrOverlap.l0] at h⟩
  | k + 1 => by
    obtain ⟨ih0, ih1⟩ := cosmaclaw03_AddrOverlap.mono_l k
    refine ⟨?_, ?_⟩
    · intro y0 y1 y2 y3 y4
      unfold cosmaclaw03_AddrOverlap.j0
      repeat' first
      | (with_reducible exact ih0 _ _ _ _ _)
      | (with_reducible exact ih1 _ _ _ _ _ _ _)
      | (with_reducible exact cosmaclaw03_awake.mono _)
      | (with_reducible exact cosmacref03_In.mono _ _ _ _)
      | (with_reducible exact cosmacref03_List.mono _ _ _)
      | (with_reducible exact LeO.refl _)
      | (with_reducible exact LeO.none _)
      | (with_reducible refine LeO.ite ?_ ?_)
      | (with_reducible refine LeO.bind ?_ (fun _ => ?_))
      | exact ih0 _ _ _ _ _
      | exact ih1 _ _ _ _ _ _ _
      | exact cosmaclaw03_awake.mono _
      | exact cosmacref03_In.mono _ _ _ _
      | exact cosmacref03_List.mono _ _ _
      | exact LeO.none _
      | refine LeO.ite ?_ ?_
      | refine LeO.bind ?_ (fun _ => ?_)
    · intro y0 y1 y2 y3 y4 y5 y6
      unfold cosmaclaw03_AddrOverlap.l0
      repeat' first
      | (with_reducible exact ih0 _ _ _ _ _)
      | (with_reducible exact ih1 _ _ _ _ _ _ _)
      | (with_reducible exact cosmaclaw03_awake.mono _)
      | (with_reducible exact cosmacref03_In.mono _ _ _ _)
      | (with_reducible exact cosmacref03_List.mono _ _ _)
      | (with_reducible exact LeO.refl _)
      | (with_reducible exact LeO.none _)
      | (with_reducible refine LeO.ite ?_ ?_)
      | (with_reducible refine LeO.bind ?_ (fun _ => ?_))
      | exact ih0 _ _ _ _ _
      | exact ih1 _ _ _ _ _ _ _
      | exact cosmaclaw03_awake.mono _
      | exact cosmacref03_In.mono _ _ _ _
      | exact cosmacref03_List.mono _ _ _
      | exact LeO.none _
      | refine LeO.ite ?_ ?_
      | refine LeO.bind ?_ (fun _ => ?_)
theorem cosmaclaw03_AddrOverlap.mono : ∀ a0 a1 a2 a3 k, LeO (cosmaclaw03_AddrOverlap.f k a0 a1 a2 a3) (cosmaclaw03_AddrOverlap.f (k + 1) a0 a1 a2 a3) := by
  intro a0 a1 a2 a3 k
  obtain ⟨ih0, ih1⟩ := cosmaclaw03_AddrOverlap.mono_l k
  unfold cosmaclaw03_AddrOverlap.f
  repeat' first
      | (with_reducible exact ih0 _ _ _ _ _)
      | (with_reducible exact ih1 _ _ _ _ _ _ _)
      | (with_reducible exact cosmaclaw03_awake.mono _)
      | (with_reducible exact cosmacref03_In.mono _ _ _ _)
      | (with_reducible exact cosmacref03_List.mono _ _ _)
      | (with_reducible exact LeO.refl _)
      | (with_reducible exact LeO.none _)
      | (with_reducible refine LeO.ite ?_ ?_)
      | (with_reducible refine LeO.bind ?_ (fun _ => ?_))
      | exact ih0 _ _ _ _ _
      | exact ih1 _ _ _ _ _ _ _
      | exact cosmaclaw03_awake.mono _
      | exact cosmacref03_In.mono _ _ _ _
      | exact cosmacref03_List.mono _ _ _
      | exact LeO.none _
      | refine LeO.ite ?_ ?_
      | refine LeO.bind ?_ (fun _ => ?_)
set_option maxHeartbeats 8000000 in
set_option maxRecDepth 100000 in
theorem cosmaclaw03_AddrOverlap.calls (k : Nat) (a0 : Int) (a1 : Int) (a2 : Int) (a3 : Int) (r : Bool) (w : World) (h : cosmaclaw03_AddrOverlap.f k a0 a1 a2 a3 = some r) :
    Calls Try.prog 4 #[.int .i64 a0, .int .i64 a1, .int .i64 a2, .int .i64 a3] w fun e w' => e = .returned (.bool r) ∧ Below w.heap.size w w' := by
  have HB := Aside0.mk (Below.refl w.heap.size w)
  have H : ((cosmaclaw03_awake.f k).bind fun t132 => (if t132 = true then ((cosmacref03_Right.f a0 a1).bind fun t133 => (if t133 = true then ((cosmacref03_Right.f a2 a3).bind fun t134 => (if t134 = true then (cosmaclaw03_AddrOverlap.j0 k a0 a1 a2 a3 (decide (a3 > 200))) else (cosmaclaw03_AddrOverlap.j0 k a0 a1 a2 a3 true))) else (cosmaclaw03_AddrOverlap.j0 k a0 a1 a2 a3 true))) else (cosmaclaw03_AddrOverlap.j0 k a0 a1 a2 a3 true))) = some r := h
  clear h
  have HC5 := Aside0.mk H
  clear H
  go_enter Try.func4, Try.ntmps4
  go_upto_region 1 with (fail)
  go_cut [29] (fun v29 wc => ∃ (kq : Nat) (x29_4 : Bool), v29 = .bool x29_4 ∧ Aside0 (cosmaclaw03_AddrOverlap.j0 kq a0 a1 a2 a3 x29_4 = some r) ∧ Aside0 (kq ≤ k) ∧ Aside0 (Below w.heap.size w wc))
  case first =>
    have H := HC5.out
    clear HC5
    replace H := Option.bind_eq_some_iff.mp H
    obtain ⟨t132, A60, H⟩ := H
    replace H : (if t132 = true then ((cosmacref03_Right.f a0 a1).bind fun t133 => (if t133 = true then ((cosmacref03_Right.f a2 a3).bind fun t134 => (if t134 = true then (cosmaclaw03_AddrOverlap.j0 k a0 a1 a2 a3 (decide (a3 > 200))) else (cosmaclaw03_AddrOverlap.j0 k a0 a1 a2 a3 true))) else (cosmaclaw03_AddrOverlap.j0 k a0 a1 a2 a3 true))) else (cosmaclaw03_AddrOverlap.j0 k a0 a1 a2 a3 true)) = some r := H
    have A6 := Aside0.mk A60
    clear A60
    by_cases c7 : t132 = true
    · subst c7
      have H1 : ((cosmacref03_Right.f a0 a1).bind fun t133 => (if t133 = true then ((cosmacref03_Right.f a2 a3).bind fun t134 => (if t134 = true then (cosmaclaw03_AddrOverlap.j0 k a0 a1 a2 a3 (decide (a3 > 200))) else (cosmaclaw03_AddrOverlap.j0 k a0 a1 a2 a3 true))) else (cosmaclaw03_AddrOverlap.j0 k a0 a1 a2 a3 true))) = some r := by rw [if_pos rfl] at H; exact H
      clear H
      have H := H1
      clear H1
      replace H := Option.bind_eq_some_iff.mp H
      obtain ⟨t133, A80, H⟩ := H
      replace H : (if t133 = true then ((cosmacref03_Right.f a2 a3).bind fun t134 => (if t134 = true then (cosmaclaw03_AddrOverlap.j0 k a0 a1 a2 a3 (decide (a3 > 200))) else (cosmaclaw03_AddrOverlap.j0 k a0 a1 a2 a3 true))) else (cosmaclaw03_AddrOverlap.j0 k a0 a1 a2 a3 true)) = some r := H
      have A8 := Aside0.mk A80
      clear A80
      by_cases c9 : t133 = true
      · subst c9
        have H1 : ((cosmacref03_Right.f a2 a3).bind fun t134 => (if t134 = true then (cosmaclaw03_AddrOverlap.j0 k a0 a1 a2 a3 (decide (a3 > 200))) else (cosmaclaw03_AddrOverlap.j0 k a0 a1 a2 a3 true))) = some r := by rw [if_pos rfl] at H; exact H
        clear H
        have H := H1
        clear H1
        replace H := Option.bind_eq_some_iff.mp H
        obtain ⟨t134, A100, H⟩ := H
        replace H : (if t134 = true then (cosmaclaw03_AddrOverlap.j0 k a0 a1 a2 a3 (decide (a3 > 200))) else (cosmaclaw03_AddrOverlap.j0 k a0 a1 a2 a3 true)) = some r := H
        have A10 := Aside0.mk A100
        clear A100
        by_cases c11 : t134 = true
        · subst c11
          have H1 : (cosmaclaw03_AddrOverlap.j0 k a0 a1 a2 a3 (decide (a3 > 200))) = some r := by rw [if_pos rfl] at H; exact H
          clear H
          have H := H1
          clear H1
          have H' := Aside0.mk H
          clear H
          go_wp2_with (first | ((with_reducible refine gate_callee (f := 7) rfl ?_); refine goesL_ (some 12) rfl rfl Try.func7 (by kernel_rfl) rfl #[] rfl (by (try simp only [List.map_toArray, List.map_cons, List.map_nil]); first | done | rfl | (simp only [List.length_drop, List.length_take]; rfl)) ?_; (with_reducible refine (cosmaclaw03_awake.calls k  true _ A6.out).mono ?_); rintro e w12 ⟨rfl, hb⟩; refine ⟨_, rfl, ?_⟩; have n0_ := Aside0.mk (below_step (by repeat (first | (with_reducible first | exact HB.out | apply below_alloc | apply pw_below_drewN | apply below_drew1) | exact HB.out)) hb); clear HB; have HB := n0_; clear n0_; (try clear hb); (try clear hb2); (try clear hk); (try clear hi)) | (go_at_call 10; (with_reducible refine (cosmacref03_Right.calls a0 a1 true _ A8.out).mono ?_); rintro e w' ⟨rfl, ⟨nd, rfl⟩⟩) | (go_at_call 10; (with_reducible refine (cosmacref03_Right.calls a2 a3 true _ A10.out).mono ?_); rintro e w' ⟨rfl, ⟨nd, rfl⟩⟩))
          go_meet
          case rel => exact ⟨_, (decide (a3 > 200)), (by first | rfl | (simp; done) | (simp [*]; done)), H', ⟨by first | omega | exact Nat.le_refl _⟩, ⟨by repeat (first | (with_reducible first | exact HB.out | apply below_alloc | apply pw_below_drewN | apply below_drew1) | exact HB.out)⟩⟩
        · replace c11 := Bool.eq_false_iff.mpr c11
          subst c11
          have H1 : (cosmaclaw03_AddrOverlap.j0 k a0 a1 a2 a3 true) = some r := by rw [if_neg (show ¬ (false = true) by decide)] at H; exact H
          clear H
          have H := H1
          clear H1
          have H' := Aside0.mk H
          clear H
          go_wp2_with (first | ((with_reducible refine gate_callee (f := 7) rfl ?_); refine goesL_ (some 12) rfl rfl Try.func7 (by kernel_rfl) rfl #[] rfl (by (try simp only [List.map_toArray, List.map_cons, List.map_nil]); first | done | rfl | (simp only [List.length_drop, List.length_take]; rfl)) ?_; (with_reducible refine (cosmaclaw03_awake.calls k  true _ A6.out).mono ?_); rintro e w13 ⟨rfl, hb⟩; refine ⟨_, rfl, ?_⟩; have n0_ := Aside0.mk (below_step (by repeat (first | (with_reducible first | exact HB.out | apply below_alloc | apply pw_below_drewN | apply below_drew1) | exact HB.out)) hb); clear HB; have HB := n0_; clear n0_; (try clear hb); (try clear hb2); (try clear hk); (try clear hi)) | (go_at_call 10; (with_reducible refine (cosmacref03_Right.calls a0 a1 true _ A8.out).mono ?_); rintro e w' ⟨rfl, ⟨nd, rfl⟩⟩) | (go_at_call 10; (with_reducible refine (cosmacref03_Right.calls a2 a3 false _ A10.out).mono ?_); rintro e w' ⟨rfl, ⟨nd, rfl⟩⟩))
          go_meet
          case rel => exact ⟨_, (true), (by first | rfl | (simp; done) | (simp [*]; done)), H', ⟨by first | omega | exact Nat.le_refl _⟩, ⟨by repeat (first | (with_reducible first | exact HB.out | apply below_alloc | apply pw_below_drewN | apply below_drew1) | exact HB.out)⟩⟩
      · replace c9 := Bool.eq_false_iff.mpr c9
        subst c9
        have H1 : (cosmaclaw03_AddrOverlap.j0 k a0 a1 a2 a3 true) = some r := by rw [if_neg (show ¬ (false = true) by decide)] at H; exact H
        clear H
        have H := H1
        clear H1
        have H' := Aside0.mk H
        clear H
        go_wp2_with (first | ((with_reducible refine gate_callee (f := 7) rfl ?_); refine goesL_ (some 12) rfl rfl Try.func7 (by kernel_rfl) rfl #[] rfl (by (try simp only [List.map_toArray, List.map_cons, List.map_nil]); first | done | rfl | (simp only [List.length_drop, List.length_take]; rfl)) ?_; (with_reducible refine (cosmaclaw03_awake.calls k  true _ A6.out).mono ?_); rintro e w14 ⟨rfl, hb⟩; refine ⟨_, rfl, ?_⟩; have n0_ := Aside0.mk (below_step (by repeat (first | (with_reducible first | exact HB.out | apply below_alloc | apply pw_below_drewN | apply below_drew1) | exact HB.out)) hb); clear HB; have HB := n0_; clear n0_; (try clear hb); (try clear hb2); (try clear hk); (try clear hi)) | (go_at_call 10; (with_reducible refine (cosmacref03_Right.calls a0 a1 false _ A8.out).mono ?_); rintro e w' ⟨rfl, ⟨nd, rfl⟩⟩))
        go_meet
        case rel => exact ⟨_, (true), (by first | rfl | (simp; done) | (simp [*]; done)), H', ⟨by first | omega | exact Nat.le_refl _⟩, ⟨by repeat (first | (with_reducible first | exact HB.out | apply below_alloc | apply pw_below_drewN | apply below_drew1) | exact HB.out)⟩⟩
    · replace c7 := Bool.eq_false_iff.mpr c7
      subst c7
      have H1 : (cosmaclaw03_AddrOverlap.j0 k a0 a1 a2 a3 true) = some r := by rw [if_neg (show ¬ (false = true) by decide)] at H; exact H
      clear H
      have H := H1
      clear H1
      have H' := Aside0.mk H
      clear H
      go_wp2_with (first | ((with_reducible refine gate_callee (f := 7) rfl ?_); refine goesL_ (some 12) rfl rfl Try.func7 (by kernel_rfl) rfl #[] rfl (by (try simp only [List.map_toArray, List.map_cons, List.map_nil]); first | done | rfl | (simp only [List.length_drop, List.length_take]; rfl)) ?_; (with_reducible refine (cosmaclaw03_awake.calls k  false _ A6.out).mono ?_); rintro e w15 ⟨rfl, hb⟩; refine ⟨_, rfl, ?_⟩; have n0_ := Aside0.mk (below_step (by repeat (first | (with_reducible first | exact HB.out | apply below_alloc | apply pw_below_drewN | apply below_drew1) | exact HB.out)) hb); clear HB; have HB := n0_; clear n0_; (try clear hb); (try clear hb2); (try clear hk); (try clear hi)))
      go_meet
      case rel => exact ⟨_, (true), (by first | rfl | (simp; done) | (simp [*]; done)), H', ⟨by first | omega | exact Nat.le_refl _⟩, ⟨by repeat (first | (with_reducible first | exact HB.out | apply below_alloc | apply pw_below_drewN | apply below_drew1) | exact HB.out)⟩⟩
  case rest =>
    clear HC5
    try clear c1
    try clear p2
    try clear c4
    try clear c7
    try clear c9
    try clear c11
    obtain ⟨kq, x29_4, rfl, HA, HJ4, HB⟩ := hcut
    cases kq with
    | zero => exact absurd HA.out (by simp [cosmaclaw03_AddrOverlap.j0])
    | succ kj4 =>
      have H := HA.out
      clear HA
      simp only [cosmaclaw03_AddrOverlap.j0] at H
      by_cases c16 : x29_4 = true
      · subst c16
        have H1 : ((cosmaclaw03_awake.f kj4).bind fun t135 => (some t135)) = some r := by rw [if_pos rfl] at H; exact H
        clear H
        have H := H1
        clear H1
        replace H := Option.bind_eq_some_iff.mp H
        obtain ⟨t135, A170, H⟩ := H
        replace H : (some t135) = some r := H
        have A17 := Aside0.mk A170
        clear A170
        obtain rfl := Option.some.inj H
        go_wp2_with (first | ((with_reducible refine gate_callee (f := 7) rfl ?_); refine goesL_ (some 30) rfl rfl Try.func7 (by kernel_rfl) rfl #[] rfl (by (try simp only [List.map_toArray, List.map_cons, List.map_nil]); first | done | rfl | (simp only [List.length_drop, List.length_take]; rfl)) ?_; (with_reducible refine (cosmaclaw03_awake.calls kj4  t135 _ A17.out).mono ?_); rintro e w18 ⟨rfl, hb⟩; refine ⟨_, rfl, ?_⟩; have n0_ := Aside0.mk (below_step (by repeat (first | (with_reducible first | exact HB.out | apply below_alloc | apply pw_below_drewN | apply below_drew1) | exact HB.out)) hb); clear HB; have HB := n0_; clear n0_; (try clear hb); (try clear hb2); (try clear hk); (try clear hi)))
        go_ret
        exact ⟨by first | rfl | (simp [errW_none, errW_some] <;> rfl) | (simp [*, errW_none, errW_some] <;> rfl), by repeat (first | (with_reducible first | exact HB.out | apply below_alloc | apply pw_below_drewN | apply below_drew1) | exact HB.out)⟩
      · replace c16 := Bool.eq_false_iff.mpr c16
        subst c16
        have H1 : ((cosmacref03_List.f kj4 a2 a3).bind fun t136 => (cosmaclaw03_AddrOverlap.l0 kj4 a0 a1 a2 a3 false t136 0)) = some r := by rw [if_neg (show ¬ (false = true) by decide)] at H; exact H
        clear H
        have H := H1
        clear H1
        replace H := Option.bind_eq_some_iff.mp H
        obtain ⟨t136, A190, H⟩ := H
        replace H : (cosmaclaw03_AddrOverlap.l0 kj4 a0 a1 a2 a3 false t136 0) = some r := H
        have A19 := Aside0.mk A190
        clear A190
        have H' := Aside0.mk H
        clear H
        go_wp2_with (first | ((with_reducible refine gate_callee (f := 16) rfl ?_); refine goesL_ (some 33) rfl rfl Try.func16 (by kernel_rfl) rfl #[.int .i64 a2, .int .i64 a3] rfl (by (try simp only [List.map_toArray, List.map_cons, List.map_nil]); first | done | rfl | (simp only [List.length_drop, List.length_take]; rfl)) ?_; (with_reducible refine (cosmacref03_List.calls kj4 a2 a3 t136 _ A19.out).mono ?_); rintro e w20 ⟨v137, rfl, ho0, hb⟩; refine ⟨_, rfl, ?_⟩; have n0_ := Aside0.mk (Kd.R_lower ho0 (below_size (by repeat (first | (with_reducible first | exact HB.out | apply below_alloc | apply pw_below_drewN | apply below_drew1) | exact HB.out)))); have n1_ := Aside0.mk (below_step (by repeat (first | (with_reducible first | exact HB.out | apply below_alloc | apply pw_below_drewN | apply below_drew1) | exact HB.out)) hb); clear HB; have HO138 := n0_; have HB := n1_; clear n0_ n1_; (try clear hb); (try clear hb2); (try clear hk); (try clear hi); (try clear ho0)))
        go_loopg [9, 11] kj4 (fun kq v9 v11 w' => ∃ (x9_2 : Bool) (x11_2 : Int), v9 = .bool x9_2 ∧ v11 = .int .i64 x11_2 ∧ Aside0 (cosmaclaw03_AddrOverlap.l0 kq a0 a1 a2 a3 x9_2 t136 x11_2 = some r) ∧ Aside0 (kq ≤ kj4) ∧ Aside0 (Kd.R (Kd.int .i64) 3 w' w.heap.size (fun _ => True) v137 t136) ∧ Aside0 (Below w.heap.size w w'))
        case atStart => exact ⟨(false), (0), (by first | rfl | (simp; done) | (simp [*]; done)), (by first | rfl | (simp; done) | (simp [*]; done)), H', ⟨Nat.le_refl _⟩, ⟨by (with_reducible repeat (first | apply Kd.R_alloc | apply Kd.R_drewN | apply Kd.R_drew)); exact HO138.out⟩, ⟨by repeat (first | (with_reducible first | exact HB.out | apply below_alloc | apply pw_below_drewN | apply below_drew1) | exact HB.out)⟩⟩
        case round =>
          clear H'
          try clear c1
          try clear p2
          try clear c4
          try clear c7
          try clear c9
          try clear c11
          try clear c16
          try clear p2
          obtain ⟨x9_2, x11_2, rfl, rfl, HA, HK2, HO_10, HB⟩ := hrel
          cases gk with
          | zero => exact absurd HA.out (by simp [cosmaclaw03_AddrOverlap.l0])
          | succ k2 =>
            have H := HA.out
            clear HA
            simp only [cosmaclaw03_AddrOverlap.l0] at H
            by_cases c21 : x11_2 < (t136.length : Int)
            · rw [if_pos c21] at H
              have c21b0 : decide (x11_2 < (t136.length : Int)) = true := decide_eq_true c21
              clear c21
              by_cases c22 : x9_2 = true
              · subst c22
                have H1 : (cosmaclaw03_AddrOverlap.l0 k2 a0 a1 a2 a3 true t136 (wrap64 (x11_2 + 1))) = some r := by rw [if_pos rfl] at H; exact H
                clear H
                have H := H1
                clear H1
                have H' := Aside0.mk H
                clear H
                obtain ⟨Ao23, co23, eo23⟩ := Kd.R_slice HO_10.out
                subst eo23
                go_wp2
                go_roundg k2
                case measure => have := HJ4.out; have := HK2.out; omega
                case rel => exact ⟨(true), (wrap64 (x11_2 + 1)), (by first | rfl | (simp; done) | (simp [*]; done)), (by first | rfl | (simp; done) | (simp [*]; done)), H', ⟨by have := HJ4.out; have := HK2.out; omega⟩, ⟨by (with_reducible repeat (first | apply Kd.R_alloc | apply Kd.R_drewN | apply Kd.R_drew)); exact HO_10.out⟩, ⟨by repeat (first | (with_reducible first | exact HB.out | apply below_alloc | apply pw_below_drewN | apply below_drew1) | exact HB.out)⟩⟩
              · replace c22 := Bool.eq_false_iff.mpr c22
                subst c22
                have H1 : (if 0 ≤ x11_2 then ((cosmacref03_In.f k2 a0 a1 (rd t136 x11_2)).bind fun t140 => (cosmaclaw03_AddrOverlap.l0 k2 a0 a1 a2 a3 t140 t136 (wrap64 (x11_2 + 1)))) else (none)) = some r := by rw [if_neg (show ¬ (false = true) by decide)] at H; exact H
                clear H
                have H := H1
                clear H1
                by_cases c24 : 0 ≤ x11_2
                · rw [if_pos c24] at H
                  have c24b0 : decide (0 ≤ x11_2) = true := decide_eq_true c24
                  clear c24
                  replace H := Option.bind_eq_some_iff.mp H
                  obtain ⟨t140, A250, H⟩ := H
                  replace H : (cosmaclaw03_AddrOverlap.l0 k2 a0 a1 a2 a3 t140 t136 (wrap64 (x11_2 + 1))) = some r := H
                  have A25 := Aside0.mk A250
                  clear A250
                  have H' := Aside0.mk H
                  clear H
                  obtain ⟨Ao26, co26, eo26⟩ := Kd.R_slice HO_10.out
                  subst eo26
                  have p139 : 0 ≤ (x11_2 : Int) := of_decide_eq_true (by first | (with_reducible assumption) | assumption)
                  have q139 : x11_2 < (t136.length : Int) := of_decide_eq_true (by first | (with_reducible assumption) | assumption)
                  obtain ⟨ad139, e139, hx139_0⟩ := Kd.at_int (Kd.R_reads' HO_10.out).2.2 x11_2 p139 q139
                  cases e139
                  replace p139 := eq_true p139
                  replace q139 := eq_true q139
                  go_wp2_with (first | (go_at_call 13; (with_reducible refine (cosmacref03_In.calls k2 a0 a1 (rd t136 x11_2) t140 _ A25.out).mono ?_); rintro e w27 ⟨rfl, hb⟩; have n0_ := Aside0.mk (Kd.R_below (by (with_reducible repeat (first | apply Kd.R_alloc | apply Kd.R_drewN | apply Kd.R_drew)); exact HO_10.out) hb); have n1_ := Aside0.mk (below_step (by repeat (first | (with_reducible first | exact HB.out | apply below_alloc | apply pw_below_drewN | apply below_drew1) | exact HB.out)) hb); clear HO_10; clear HB; have HO_10 := n0_; have HB := n1_; clear n0_ n1_; (try clear hb); (try clear hb2); (try clear hk); (try clear hi)))
                  go_roundg k2
                  case measure => have := HJ4.out; have := HK2.out; omega
                  case rel => exact ⟨(t140), (wrap64 (x11_2 + 1)), (by first | rfl | (simp; done) | (simp [*]; done)), (by first | rfl | (simp; done) | (simp [*]; done)), H', ⟨by have := HJ4.out; have := HK2.out; omega⟩, ⟨by (with_reducible repeat (first | apply Kd.R_alloc | apply Kd.R_drewN | apply Kd.R_drew)); exact HO_10.out⟩, ⟨by repeat (first | (with_reducible first | exact HB.out | apply below_alloc | apply pw_below_drewN | apply below_drew1) | exact HB.out)⟩⟩
                · rw [if_neg c24] at H
                  exact absurd H (by simp)
            · rw [if_neg c21] at H
              have c21b0 : decide (x11_2 < (t136.length : Int)) = false := decide_eq_false c21
              clear c21
              replace H := Option.bind_eq_some_iff.mp H
              obtain ⟨t141, A280, H⟩ := H
              replace H : (if (t141 == x9_2) = true then ((addr_Overlap.f a2 a3 a0 a1).bind fun t142 => (some (t142 == x9_2))) else (some false)) = some r := H
              have A28 := Aside0.mk A280
              clear A280
              by_cases c29 : (t141 == x9_2) = true
              · rw [if_pos c29] at H
                have c29b0 : (t141 == x9_2) = true := c29
                (try (have c29b1 : decide (t141 = x9_2) = true := by simpa using c29))
                (try (have c29b2 : (t141 == x9_2) = true := by simpa using c29))
                clear c29
                replace H := Option.bind_eq_some_iff.mp H
                obtain ⟨t142, A300, H⟩ := H
                replace H : (some (t142 == x9_2)) = some r := H
                have A30 := Aside0.mk A300
                clear A300
                obtain rfl := Option.some.inj H
                obtain ⟨Ao31, co31, eo31⟩ := Kd.R_slice HO_10.out
                subst eo31
                go_wp2_with (first | ((with_reducible refine gate_callee (f := 17) rfl ?_); refine goesL_ (some 54) rfl rfl Try.func17 (by kernel_rfl) rfl #[.int .i64 a0, .int .i64 a1, .int .i64 a2, .int .i64 a3] rfl (by (try simp only [List.map_toArray, List.map_cons, List.map_nil]); first | done | rfl | (simp only [List.length_drop, List.length_take]; rfl)) ?_; (with_reducible refine (addr_Overlap.calls a0 a1 a2 a3 t141 _ A28.out).mono ?_); rintro e w' ⟨rfl, ⟨nd, rfl⟩⟩; refine ⟨_, rfl, ?_⟩) | (go_at_call 17; (with_reducible refine (addr_Overlap.calls a2 a3 a0 a1 t142 _ A30.out).mono ?_); rintro e w' ⟨rfl, ⟨nd, rfl⟩⟩))
                go_ret
                exact ⟨by first | rfl | (simp [errW_none, errW_some] <;> rfl) | (simp [*, errW_none, errW_some] <;> rfl), by repeat (first | (with_reducible first | exact HB.out | apply below_alloc | apply pw_below_drewN | apply below_drew1) | exact HB.out)⟩
              · rw [if_neg c29] at H
                have c29b0 : (t141 == x9_2) = false := by simpa using c29
                (try (have c29b1 : decide (t141 = x9_2) = false := by simpa using c29))
                (try (have c29b2 : (t141 == x9_2) = false := by simpa using c29))
                (try (have c29b3 : ¬ (t141 = x9_2) := by simpa using c29))
                clear c29
                obtain rfl := Option.some.inj H
                obtain ⟨Ao32, co32, eo32⟩ := Kd.R_slice HO_10.out
                subst eo32
                go_wp2_with (first | ((with_reducible refine gate_callee (f := 17) rfl ?_); refine goesL_ (some 54) rfl rfl Try.func17 (by kernel_rfl) rfl #[.int .i64 a0, .int .i64 a1, .int .i64 a2, .int .i64 a3] rfl (by (try simp only [List.map_toArray, List.map_cons, List.map_nil]); first | done | rfl | (simp only [List.length_drop, List.length_take]; rfl)) ?_; (with_reducible refine (addr_Overlap.calls a0 a1 a2 a3 t141 _ A28.out).mono ?_); rintro e w' ⟨rfl, ⟨nd, rfl⟩⟩; refine ⟨_, rfl, ?_⟩))
                go_ret
                exact ⟨by first | rfl | (simp [errW_none, errW_some] <;> rfl) | (simp [*, errW_none, errW_some] <;> rfl), by repeat (first | (with_reducible first | exact HB.out | apply below_alloc | apply pw_below_drewN | apply below_drew1) | exact HB.out)⟩

/-- THE ONE PURE STATEMENT of cosmaclaw03_AddrOverlap: yours. -/
def cosmaclaw03_AddrOverlap.Pure : Prop := ∀ (a0 : Int) (a1 : Int) (a2 : Int) (a3 : Int), (Lit.int .i64 a0).wf = true → (Lit.int .i64 a1).wf = true → (Lit.int .i64 a2).wf = true → (Lit.int .i64 a3).wf = true → ∃ k, cosmaclaw03_AddrOverlap.f k a0 a1 a2 a3 = some true
theorem cosmaclaw03_AddrOverlap.walk (P : cosmaclaw03_AddrOverlap.Pure) (a0 : Int) (a1 : Int) (a2 : Int) (a3 : Int) (w : World) (w0 : (Lit.int .i64 a0).wf = true) (w1 : (Lit.int .i64 a1).wf = true) (w2 : (Lit.int .i64 a2).wf = true) (w3 : (Lit.int .i64 a3).wf = true) :
    Calls Try.prog 4 #[.int .i64 a0, .int .i64 a1, .int .i64 a2, .int .i64 a3] w fun e w' => e = .returned (.bool true) ∧ Below w.heap.size w w' := by
  obtain ⟨k, h⟩ := P a0 a1 a2 a3 w0 w1 w2 w3
  refine (cosmaclaw03_AddrOverlap.calls k a0 a1 a2 a3 true w h).mono ?_
  rintro e w' ⟨rfl, hd⟩
  exact ⟨rfl, hd⟩

end Go.Proofs.Ytpccokimjmmmoaa.PAddrOverlap
