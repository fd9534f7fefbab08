/- AddrMatchesReference: part 2 of the walk, written by gen_addr.py. -/
import Derived.Test.YtpccokimjmmmoaaQAddrMatchesReference0
import Derived.Test.YtpccokimjmmmoaaQAddrMatchesReference1
namespace Go.Proofs.Ytpccokimjmmmoaa.PAddrMatchesReference
open Go.RowKit Go.Proofs.YtpccokimjmmmoaaW.PrintWords Go.Proofs.YtpccokimjmmmoaaW.PrintLast Go.Proofs.YtpccokimjmmmoaaW.PrintMore
attribute [local go_sem] max2_int min2_int max_two min_two max_three min_three max_four min_four   -- for this text's walks alone
set_option linter.unusedVariables false
set_option linter.unusedSimpArgs false

/-! ### cosmaclaw03_AddrMatchesReference: function 3 -/
mutual
def cosmaclaw03_AddrMatchesReference.j0 : Nat → Int → Int → Int → Bool → Bool → Option (Bool)
  | 0, _, _, _, _, _ => none
  | k + 1, x1, x2, x3, x4, x20 => if x20 = true then (some false) else ((cosmacref03_Right.f x1 x2).bind fun t135 => (if t135 = true then ((cosmacref03_Right.f x3 0).bind fun t136 => (cosmaclaw03_AddrMatchesReference.j1 k x1 x2 x3 x4 (!t136))) else (cosmaclaw03_AddrMatchesReference.j1 k x1 x2 x3 x4 true)))
def cosmaclaw03_AddrMatchesReference.j1 : Nat → Int → Int → Int → Bool → Bool → Option (Bool)
  | 0, _, _, _, _, _ => none
  | k + 1, x1, x2, x3, x4, x29 => if x29 = true then (some true) else ((addr_Check.f x1 x2 x4).bind fun t137 => (if x4 = true then (if ((t137 == 4) != (decide ((wrap64 (x1 + x2)) > 65536))) = true then (cosmaclaw03_AddrMatchesReference.j2 k x1 x2 true) else (if t137 = 0 then ((addr_In.f x1 x2 x3).bind fun t138 => ((cosmacref03_In.f k x1 x2 x3).bind fun t139 => (cosmaclaw03_AddrMatchesReference.j2 k x1 x2 (t138 != t139)))) else (if t137 = 4 then ((addr_In.f x1 x2 x3).bind fun t140 => ((cosmacref03_In.f k x1 x2 x3).bind fun t141 => (cosmaclaw03_AddrMatchesReference.j2 k x1 x2 (t140 != t141)))) else (cosmaclaw03_AddrMatchesReference.j2 k x1 x2 true)))) else (if ((t137 == 4) != false) = true then (cosmaclaw03_AddrMatchesReference.j2 k x1 x2 true) else (if t137 = 0 then ((addr_In.f x1 x2 x3).bind fun t142 => ((cosmacref03_In.f k x1 x2 x3).bind fun t143 => (cosmaclaw03_AddrMatchesReference.j2 k x1 x2 (t142 != t143)))) else (if t137 = 4 then ((addr_In.f x1 x2 x3).bind fun t144 => ((cosmacref03_In.f k x1 x2 x3).bind fun t145 => (cosmaclaw03_AddrMatchesReference.j2 k x1 x2 (t144 != t145)))) else (cosmaclaw03_AddrMatchesReference.j2 k x1 x2 true))))))
def cosmaclaw03_AddrMatchesReference.j2 : Nat → Int → Int → Bool → Option (Bool)
  | 0, _, _, _ => none
  | k + 1, x1, x2, x62 => if x62 = true then (some false) else (if x2 > 2000 then (some true) else ((addr_List.f k x1 x2).bind fun t146 => ((cosmacref03_List.f k x1 x2).bind fun t149 => ((cosmacref03_Numbers.f k t146 t149).bind fun t152 => (some t152)))))
end
def cosmaclaw03_AddrMatchesReference.f (k : Nat) (a0 : Int) (a1 : Int) (a2 : Int) (a3 : Int) (a4 : Bool) : Option (Bool) := (cosmaclaw03_awake.f k).bind fun t132 => (if t132 = true then ((addr_Wrap.f a0).bind fun t133 => ((cosmacref01_Mod.f a0).bind fun t134 => (cosmaclaw03_AddrMatchesReference.j0 k a1 a2 a3 a4 (t133 != t134)))) else (cosmaclaw03_AddrMatchesReference.j0 k a1 a2 a3 a4 true))
theorem cosmaclaw03_AddrMatchesReference.mono_l : ∀ k, (∀ y0 y1 y2 y3 y4, LeO (cosmaclaw03_AddrMatchesReference.j0 k y0 y1 y2 y3 y4) (cosmaclaw03_AddrMatchesReference.j0 (k + 1) y0 y1 y2 y3 y4)) ∧ (∀ y0 y1 y2 y3 y4, LeO (cosmaclaw03_AddrMatchesReference.j1 k y0 y1 y2 y3 y4) (cosmaclaw03_AddrMatchesReference.j1 (k + 1) y0 y1 y2 y3 y4)) ∧ (∀ y0 y1 y2, LeO (cosmaclaw03_AddrMatchesReference.j2 k y0 y1 y2) (cosmaclaw03_AddrMatchesReference.j2 (k + 1) y0 y1 y2))
  | 0 => ⟨fun _ _ _ _ _ r h => by simp [cosmaclaw03_AddrMatchesReference.j0] at h, fun _ _ _ _ _ r h => by simp [cosmaclaw03_AddrMatchesReference.j1] at h, fun _ _ _ r h => by simp [cosmaclaw03_AddrMatchesReference.j2] at h⟩
  | k + 1 => by
    obtain ⟨ih0, ih1, ih2⟩ := cosmaclaw03_AddrMatchesReference.mono_l k
    refine ⟨?_, ?_, ?_⟩
    · intro y0 y1 y2 y3 y4
      unfold cosmaclaw03_AddrMatchesReference.j0
      repeat' first
      | (with_reducible exact ih0 _ _ _ _ _)
      | (with_reducible exact ih1 _ _ _ _ _)
      | (with_reducible exact ih2 _ _ _)
      | (with_reducible exact addr_List.mono _ _ _)
      | (with_reducible exact cosmaclaw03_awake.mono _)
      | (with_reducible exact cosmacref03_In.mono _ _ _ _)
      | (with_reducible exact cosmacref03_List.mono _ _ _)
      | (with_reducible exact cosmacref03_Numbers.mono _ _ _)
      | (with_reducible exact LeO.refl _)
      | (with_reducible exact LeO.none _)
      | (with_reducible refine LeO.ite ?_ ?_)
      | (with_reducible refine LeO.bind ?_ (fun _ => ?_))
      | exact ih0 _ _ _ _ _
      | exact ih1 _ _ _ _ _
      | exact ih2 _ _ _
      | exact addr_List.mono _ _ _
      | exact cosmaclaw03_awake.mono _
      | exact cosmacref03_In.mono _ _ _ _
      | exact cosmacref03_List.mono _ _ _
      | exact cosmacref03_Numbers.mono _ _ _
      | exact LeO.none _
      | refine LeO.ite ?_ ?_
      | refine LeO.bind ?_ (fun _ => ?_)
    · intro y0 y1 y2 y3 y4
      unfold cosmaclaw03_AddrMatchesReference.j1
      repeat' first
      | (with_reducible exact ih0 _ _ _ _ _)
      | (with_reducible exact ih1 _ _ _ _ _)
      | (with_reducible exact ih2 _ _ _)
      | (with_reducible exact addr_List.mono _ _ _)
      | (with_reducible exact cosmaclaw03_awake.mono _)
      | (with_reducible exact cosmacref03_In.mono _ _ _ _)
      | (with_reducible exact cosmacref03_List.mono _ _ _)
      | (with_reducible exact cosmacref03_Numbers.mono _ _ _)
      | (with_reducible exact LeO.refl _)
      | (with_reducible exact LeO.none _)
      | (with_reducible refine LeO.ite ?_ ?_)
      | (with_reducible refine LeO.bind ?_ (fun _ => ?_))
      | exact ih0 _ _ _ _ _
      | exact ih1 _ _ _ _ _
      | exact ih2 _ _ _
      | exact addr_List.mono _ _ _
      | exact cosmaclaw03_awake.mono _
      | exact cosmacref03_In.mono _ _ _ _
      | exact cosmacref03_List.mono _ _ _
      | exact cosmacref03_Numbers.mono _ _ _
      | exact LeO.none _
      | refine LeO.ite ?_ ?_
      | refine LeO.bind ?_ (fun _ => ?_)
    · intro y0 y1 y2
      unfold cosmaclaw03_AddrMatchesReference.j2
      repeat' first
      | (with_reducible exact ih0 _ _ _ _ _)
      | (with_reducible exact ih1 _ _ _ _ _)
      | (with_reducible exact ih2 _ _ _)
      | (with_reducible exact addr_List.mono _ _ _)
      | (with_reducible exact cosmaclaw03_awake.mono _)
      | (with_reducible exact cosmacref03_In.mono _ _ _ _)
      | (with_reducible exact cosmacref03_List.mono _ _ _)
      | (with_reducible exact cosmacref03_Numbers.mono _ _ _)
      | (with_reducible exact LeO.refl _)
      | (with_reducible exact LeO.none _)
      | (with_reducible refine LeO.ite ?_ ?_)
      | (with_reducible refine LeO.bind ?_ (fun _ => ?_))
      | exact ih0 _ _ _ _ _
      | exact ih1 _ _ _ _ _
      | exact ih2 _ _ _
      | exact addr_List.mono _ _ _
      | exact cosmaclaw03_awake.mono _
      | exact cosmacref03_In.mono _ _ _ _
      | exact cosmacref03_List.mono _ _ _
      | exact cosmacref03_Numbers.mono _ _ _
      | exact LeO.none _
      | refine LeO.ite ?_ ?_
      | refine LeO.bind ?_ (fun _ => ?_)
theorem cosmaclaw03_AddrMatchesReference.mono : ∀ a0 a1 a2 a3 a4 k, LeO (cosmaclaw03_AddrMatchesReference.f k a0 a1 a2 a3 a4) (cosmaclaw03_AddrMatchesReference.f (k + 1) a0 a1 a2 a3 a4) := by
  intro a0 a1 a2 a3 a4 k
  obtain ⟨ih0, ih1, ih2⟩ := cosmaclaw03_AddrMatchesReference.mono_l k
  unfold cosmaclaw03_AddrMatchesReference.f
  repeat' first
      | (with_reducible exact ih0 _ _ _ _ _)
      | (with_reducible exact ih1 _ _ _ _ _)
      | (with_reducible exact ih2 _ _ _)
      | (with_reducible exact addr_List.mono _ _ _)
      | (with_reducible exact cosmaclaw03_awake.mono _)
      | (with_reducible exact cosmacref03_In.mono _ _ _ _)
      | (with_reducible exact cosmacref03_List.mono _ _ _)
      | (with_reducible exact cosmacref03_Numbers.mono _ _ _)
      | (with_reducible exact LeO.refl _)
      | (with_reducible exact LeO.none _)
      | (with_reducible refine LeO.ite ?_ ?_)
      | (with_reducible refine LeO.bind ?_ (fun _ => ?_))
      | exact ih0 _ _ _ _ _
      | exact ih1 _ _ _ _ _
      | exact ih2 _ _ _
      | exact addr_List.mono _ _ _
      | exact cosmaclaw03_awake.mono _
      | exact cosmacref03_In.mono _ _ _ _
      | exact cosmacref03_List.mono _ _ _
      | exact cosmacref03_Numbers.mono _ _ _
      | exact LeO.none _
      | refine LeO.ite ?_ ?_
      | refine LeO.bind ?_ (fun _ => ?_)
set_option maxHeartbeats 8000000 in
set_option maxRecDepth 100000 in
theorem cosmaclaw03_AddrMatchesReference.calls (k : Nat) (a0 : Int) (a1 : Int) (a2 : Int) (a3 : Int) (a4 : Bool) (r : Bool) (w : World) (h : cosmaclaw03_AddrMatchesReference.f k a0 a1 a2 a3 a4 = some r) :
    Calls Try.prog 3 #[.int .i64 a0, .int .i64 a1, .int .i64 a2, .int .i64 a3, .bool a4] w fun e w' => e = .returned (.bool r) ∧ Below w.heap.size w w' := by
  have HB := Aside0.mk (Below.refl w.heap.size w)
  have H : ((cosmaclaw03_awake.f k).bind fun t132 => (if t132 = true then ((addr_Wrap.f a0).bind fun t133 => ((cosmacref01_Mod.f a0).bind fun t134 => (cosmaclaw03_AddrMatchesReference.j0 k a1 a2 a3 a4 (t133 != t134)))) else (cosmaclaw03_AddrMatchesReference.j0 k a1 a2 a3 a4 true))) = some r := h
  clear h
  have HC6 := Aside0.mk H
  clear H
  go_enter Try.func3, Try.ntmps3
  go_upto_region 1 with (fail)
  go_cut [20] (fun v20 wc => ∃ (kq : Nat) (x20_5 : Bool), v20 = .bool x20_5 ∧ Aside0 (cosmaclaw03_AddrMatchesReference.j0 kq a1 a2 a3 a4 x20_5 = some r) ∧ Aside0 (kq ≤ k) ∧ Aside0 (Below w.heap.size w wc))
  case first =>
    have H := HC6.out
    clear HC6
    replace H := Option.bind_eq_some_iff.mp H
    obtain ⟨t132, A70, H⟩ := H
    replace H : (if t132 = true then ((addr_Wrap.f a0).bind fun t133 => ((cosmacref01_Mod.f a0).bind fun t134 => (cosmaclaw03_AddrMatchesReference.j0 k a1 a2 a3 a4 (t133 != t134)))) else (cosmaclaw03_AddrMatchesReference.j0 k a1 a2 a3 a4 true)) = some r := H
    have A7 := Aside0.mk A70
    clear A70
    by_cases c8 : t132 = true
    · subst c8
      have H1 : ((addr_Wrap.f a0).bind fun t133 => ((cosmacref01_Mod.f a0).bind fun t134 => (cosmaclaw03_AddrMatchesReference.j0 k a1 a2 a3 a4 (t133 != t134)))) = some r := by rw [if_pos rfl] at H; exact H
      clear H
      have H := H1
      clear H1
      replace H := Option.bind_eq_some_iff.mp H
      obtain ⟨t133, A90, H⟩ := H
      replace H : ((cosmacref01_Mod.f a0).bind fun t134 => (cosmaclaw03_AddrMatchesReference.j0 k a1 a2 a3 a4 (t133 != t134))) = some r := H
      have A9 := Aside0.mk A90
      clear A90
      replace H := Option.bind_eq_some_iff.mp H
      obtain ⟨t134, A100, H⟩ := H
      replace H : (cosmaclaw03_AddrMatchesReference.j0 k a1 a2 a3 a4 (t133 != t134)) = some r := H
      have A10 := Aside0.mk A100
      clear A100
      have H' := Aside0.mk H
      clear H
      go_wp2_with (first | ((with_reducible refine gate_callee (f := 7) rfl ?_); refine goesL_ (some 12) rfl rfl Try.func7 (by kernel_rfl) rfl #[] rfl (by (try simp only [List.map_toArray, List.map_cons, List.map_nil]); first | done | rfl | (simp only [List.length_drop, List.length_take]; rfl)) ?_; (with_reducible refine (cosmaclaw03_awake.calls k  true _ A7.out).mono ?_); rintro e w11 ⟨rfl, hb⟩; refine ⟨_, rfl, ?_⟩; have n0_ := Aside0.mk (below_step (by repeat (first | (with_reducible first | exact HB.out | apply below_alloc | apply pw_below_drewN | apply below_drew1) | exact HB.out)) hb); clear HB; have HB := n0_; clear n0_; (try clear hb); (try clear hb2); (try clear hk); (try clear hi)) | (go_at_call 8; (with_reducible refine (addr_Wrap.calls a0 t133 _ A9.out).mono ?_); rintro e w' ⟨rfl, ⟨nd, rfl⟩⟩) | (go_at_call 9; (with_reducible refine (cosmacref01_Mod.calls a0 t134 _ A10.out).mono ?_); rintro e w' ⟨rfl, ⟨nd, rfl⟩⟩))
      go_meet
      case rel => exact ⟨_, ((t133 != t134)), (by first | rfl | (simp; done) | (simp [*]; done)), H', ⟨by first | omega | exact Nat.le_refl _⟩, ⟨by repeat (first | (with_reducible first | exact HB.out | apply below_alloc | apply pw_below_drewN | apply below_drew1) | exact HB.out)⟩⟩
    · replace c8 := Bool.eq_false_iff.mpr c8
      subst c8
      have H1 : (cosmaclaw03_AddrMatchesReference.j0 k a1 a2 a3 a4 true) = some r := by rw [if_neg (show ¬ (false = true) by decide)] at H; exact H
      clear H
      have H := H1
      clear H1
      have H' := Aside0.mk H
      clear H
      go_wp2_with (first | ((with_reducible refine gate_callee (f := 7) rfl ?_); refine goesL_ (some 12) rfl rfl Try.func7 (by kernel_rfl) rfl #[] rfl (by (try simp only [List.map_toArray, List.map_cons, List.map_nil]); first | done | rfl | (simp only [List.length_drop, List.length_take]; rfl)) ?_; (with_reducible refine (cosmaclaw03_awake.calls k  false _ A7.out).mono ?_); rintro e w12 ⟨rfl, hb⟩; refine ⟨_, rfl, ?_⟩; have n0_ := Aside0.mk (below_step (by repeat (first | (with_reducible first | exact HB.out | apply below_alloc | apply pw_below_drewN | apply below_drew1) | exact HB.out)) hb); clear HB; have HB := n0_; clear n0_; (try clear hb); (try clear hb2); (try clear hk); (try clear hi)))
      go_meet
      case rel => exact ⟨_, (true), (by first | rfl | (simp; done) | (simp [*]; done)), H', ⟨by first | omega | exact Nat.le_refl _⟩, ⟨by repeat (first | (with_reducible first | exact HB.out | apply below_alloc | apply pw_below_drewN | apply below_drew1) | exact HB.out)⟩⟩
  case rest =>
    clear HC6
    try clear p2
    try clear c3
    try clear c7
    try clear c8
    obtain ⟨kq, x20_5, rfl, HA, HJ5, HB⟩ := hcut
    cases kq with
    | zero => exact absurd HA.out (by simp [cosmaclaw03_AddrMatchesReference.j0])
    | succ kj5 =>
      have H := HA.out
      clear HA
      simp only [cosmaclaw03_AddrMatchesReference.j0] at H
      by_cases c13 : x20_5 = true
      · subst c13
        have H1 : (some false) = some r := by rw [if_pos rfl] at H; exact H
        clear H
        have H := H1
        clear H1
        obtain rfl := Option.some.inj H
        go_wp2
        go_ret
        exact ⟨by first | rfl | (simp [errW_none, errW_some] <;> rfl) | (simp [*, errW_none, errW_some] <;> rfl), by repeat (first | (with_reducible first | exact HB.out | apply below_alloc | apply pw_below_drewN | apply below_drew1) | exact HB.out)⟩
      · replace c13 := Bool.eq_false_iff.mpr c13
        subst c13
        have H1 : ((cosmacref03_Right.f a1 a2).bind fun t135 => (if t135 = true then ((cosmacref03_Right.f a3 0).bind fun t136 => (cosmaclaw03_AddrMatchesReference.j1 kj5 a1 a2 a3 a4 (!t136))) else (cosmaclaw03_AddrMatchesReference.j1 kj5 a1 a2 a3 a4 true))) = some r := by rw [if_neg (show ¬ (false = true) by decide)] at H; exact H
        clear H
        have H := H1
        clear H1
        have HC14 := Aside0.mk H
        clear H
        go_upto_region 3 with (fail)
        go_cut [29] (fun v29 wc => ∃ (kq : Nat) (x29_13 : Bool), v29 = .bool x29_13 ∧ Aside0 (cosmaclaw03_AddrMatchesReference.j1 kq a1 a2 a3 a4 x29_13 = some r) ∧ Aside0 (kq ≤ kj5) ∧ Aside0 (Below w.heap.size w wc))
        case first =>
          have H := HC14.out
          clear HC14
          replace H := Option.bind_eq_some_iff.mp H
          obtain ⟨t135, A150, H⟩ := H
          replace H : (if t135 = true then ((cosmacref03_Right.f a3 0).bind fun t136 => (cosmaclaw03_AddrMatchesReference.j1 kj5 a1 a2 a3 a4 (!t136))) else (cosmaclaw03_AddrMatchesReference.j1 kj5 a1 a2 a3 a4 true)) = some r := H
          have A15 := Aside0.mk A150
          clear A150
          by_cases c16 : t135 = true
          · subst c16
            have H1 : ((cosmacref03_Right.f a3 0).bind fun t136 => (cosmaclaw03_AddrMatchesReference.j1 kj5 a1 a2 a3 a4 (!t136))) = some r := by rw [if_pos rfl] at H; exact H
            clear H
            have H := H1
            clear H1
            replace H := Option.bind_eq_some_iff.mp H
            obtain ⟨t136, A170, H⟩ := H
            replace H : (cosmaclaw03_AddrMatchesReference.j1 kj5 a1 a2 a3 a4 (!t136)) = some r := H
            have A17 := Aside0.mk A170
            clear A170
            have H' := Aside0.mk H
            clear H
            go_wp2_with (first | ((with_reducible refine gate_callee (f := 10) rfl ?_); refine goesL_ (some 23) rfl rfl Try.func10 (by kernel_rfl) rfl #[.int .i64 a1, .int .i64 a2] rfl (by (try simp only [List.map_toArray, List.map_cons, List.map_nil]); first | done | rfl | (simp only [List.length_drop, List.length_take]; rfl)) ?_; (with_reducible refine (cosmacref03_Right.calls a1 a2 true _ A15.out).mono ?_); rintro e w' ⟨rfl, ⟨nd, rfl⟩⟩; refine ⟨_, rfl, ?_⟩) | (go_at_call 10; (with_reducible refine (cosmacref03_Right.calls a3 0 t136 _ A17.out).mono ?_); rintro e w' ⟨rfl, ⟨nd, rfl⟩⟩))
            go_meet
            case rel => exact ⟨_, (!t136), (by first | rfl | (simp; done) | (simp [*]; done)), H', ⟨by have := HJ5.out; first | omega | exact Nat.le_refl _⟩, ⟨by repeat (first | (with_reducible first | exact HB.out | apply below_alloc | apply pw_below_drewN | apply below_drew1) | exact HB.out)⟩⟩
          · replace c16 := Bool.eq_false_iff.mpr c16
            subst c16
            have H1 : (cosmaclaw03_AddrMatchesReference.j1 kj5 a1 a2 a3 a4 true) = some r := by rw [if_neg (show ¬ (false = true) by decide)] at H; exact H
            clear H
            have H := H1
            clear H1
            have H' := Aside0.mk H
            clear H
            go_wp2_with (first | ((with_reducible refine gate_callee (f := 10) rfl ?_); refine goesL_ (some 23) rfl rfl Try.func10 (by kernel_rfl) rfl #[.int .i64 a1, .int .i64 a2] rfl (by (try simp only [List.map_toArray, List.map_cons, List.map_nil]); first | done | rfl | (simp only [List.length_drop, List.length_take]; rfl)) ?_; (with_reducible refine (cosmacref03_Right.calls a1 a2 false _ A15.out).mono ?_); rintro e w' ⟨rfl, ⟨nd, rfl⟩⟩; refine ⟨_, rfl, ?_⟩))
            go_meet
            case rel => exact ⟨_, (true), (by first | rfl | (simp; done) | (simp [*]; done)), H', ⟨by have := HJ5.out; first | omega | exact Nat.le_refl _⟩, ⟨by repeat (first | (with_reducible first | exact HB.out | apply below_alloc | apply pw_below_drewN | apply below_drew1) | exact HB.out)⟩⟩
        case rest =>
          clear HC14
          try clear c1
          try clear p2
          try clear c3
          try clear c7
          try clear c8
          try clear c10
          try clear c13
          try clear c16
          try clear p2
          obtain ⟨kq, x29_13, rfl, HA, HJ13, HB⟩ := hcut
          cases kq with
          | zero => exact absurd HA.out (by simp [cosmaclaw03_AddrMatchesReference.j1])
          | succ kj13 =>
            have H := HA.out
            clear HA
            simp only [cosmaclaw03_AddrMatchesReference.j1] at H
            by_cases c18 : x29_13 = true
            · subst c18
              have H1 : (some true) = some r := by rw [if_pos rfl] at H; exact H
              clear H
              have H := H1
              clear H1
              obtain rfl := Option.some.inj H
              go_wp2
              go_ret
              exact ⟨by first | rfl | (simp [errW_none, errW_some] <;> rfl) | (simp [*, errW_none, errW_some] <;> rfl), by repeat (first | (with_reducible first | exact HB.out | apply below_alloc | apply pw_below_drewN | apply below_drew1) | exact HB.out)⟩
            · replace c18 := Bool.eq_false_iff.mpr c18
              subst c18
              have H1 : ((addr_Check.f a1 a2 a4).bind fun t137 => (if a4 = true then (if ((t137 == 4) != (decide ((wrap64 (a1 + a2)) > 65536))) = true then (cosmaclaw03_AddrMatchesReference.j2 kj13 a1 a2 true) else (if t137 = 0 then ((addr_In.f a1 a2 a3).bind fun t138 => ((cosmacref03_In.f kj13 a1 a2 a3).bind fun t139 => (cosmaclaw03_AddrMatchesReference.j2 kj13 a1 a2 (t138 != t139)))) else (if t137 = 4 then ((addr_In.f a1 a2 a3).bind fun t140 => ((cosmacref03_In.f kj13 a1 a2 a3).bind fun t141 => (cosmaclaw03_AddrMatchesReference.j2 kj13 a1 a2 (t140 != t141)))) else (cosmaclaw03_AddrMatchesReference.j2 kj13 a1 a2 true)))) else (if ((t137 == 4) != false) = true then (cosmaclaw03_AddrMatchesReference.j2 kj13 a1 a2 true) else (if t137 = 0 then ((addr_In.f a1 a2 a3).bind fun t142 => ((cosmacref03_In.f kj13 a1 a2 a3).bind fun t143 => (cosmaclaw03_AddrMatchesReference.j2 kj13 a1 a2 (t142 != t143)))) else (if t137 = 4 then ((addr_In.f a1 a2 a3).bind fun t144 => ((cosmacref03_In.f kj13 a1 a2 a3).bind fun t145 => (cosmaclaw03_AddrMatchesReference.j2 kj13 a1 a2 (t144 != t145)))) else (cosmaclaw03_AddrMatchesReference.j2 kj13 a1 a2 true)))))) = some r := by rw [if_neg (show ¬ (false = true) by decide)] at H; exact H
              clear H
              have H := H1
              clear H1
              replace H := Option.bind_eq_some_iff.mp H
              obtain ⟨t137, A190, H⟩ := H
              replace H : (if a4 = true then (if ((t137 == 4) != (decide ((wrap64 (a1 + a2)) > 65536))) = true then (cosmaclaw03_AddrMatchesReference.j2 kj13 a1 a2 true) else (if t137 = 0 then ((addr_In.f a1 a2 a3).bind fun t138 => ((cosmacref03_In.f kj13 a1 a2 a3).bind fun t139 => (cosmaclaw03_AddrMatchesReference.j2 kj13 a1 a2 (t138 != t139)))) else (if t137 = 4 then ((addr_In.f a1 a2 a3).bind fun t140 => ((cosmacref03_In.f kj13 a1 a2 a3).bind fun t141 => (cosmaclaw03_AddrMatchesReference.j2 kj13 a1 a2 (t140 != t141)))) else (cosmaclaw03_AddrMatchesReference.j2 kj13 a1 a2 true)))) else (if ((t137 == 4) != false) = true then (cosmaclaw03_AddrMatchesReference.j2 kj13 a1 a2 true) else (if t137 = 0 then ((addr_In.f a1 a2 a3).bind fun t142 => ((cosmacref03_In.f kj13 a1 a2 a3).bind fun t143 => (cosmaclaw03_AddrMatchesReference.j2 kj13 a1 a2 (t142 != t143)))) else (if t137 = 4 then ((addr_In.f a1 a2 a3).bind fun t144 => ((cosmacref03_In.f kj13 a1 a2 a3).bind fun t145 => (cosmaclaw03_AddrMatchesReference.j2 kj13 a1 a2 (t144 != t145)))) else (cosmaclaw03_AddrMatchesReference.j2 kj13 a1 a2 true))))) = some r := H
              have A19 := Aside0.mk A190
              clear A190
              have HC20 := Aside0.mk H
              clear H
              go_upto_region 6 with (first | ((with_reducible refine gate_callee (f := 11) rfl ?_); refine goesL_ (some 33) rfl rfl Try.func11 (by kernel_rfl) rfl #[.int .i64 a1, .int .i64 a2, .bool a4] rfl (by (try simp only [List.map_toArray, List.map_cons, List.map_nil]); first | done | rfl | (simp only [List.length_drop, List.length_take]; rfl)) ?_; (with_reducible refine (addr_Check.calls a1 a2 a4 t137 _ A19.out).mono ?_); rintro e w' ⟨rfl, ⟨nd, rfl⟩⟩; refine ⟨_, rfl, ?_⟩))
              (try simp only [Act.put, List.setIfInBounds_toArray, List.set_cons_zero, List.set_cons_succ])
              go_cut [62] (fun v62 wc => ∃ (kq : Nat) (x62_19 : Bool), v62 = .bool x62_19 ∧ Aside0 (cosmaclaw03_AddrMatchesReference.j2 kq a1 a2 x62_19 = some r) ∧ Aside0 (kq ≤ kj13) ∧ Aside0 (Below w.heap.size w wc))
              case first =>
                have H := HC20.out
                clear HC20
                by_cases c21 : a4 = true
                · subst c21
                  have H1 : (if ((t137 == 4) != (decide ((wrap64 (a1 + a2)) > 65536))) = true then (cosmaclaw03_AddrMatchesReference.j2 kj13 a1 a2 true) else (if t137 = 0 then ((addr_In.f a1 a2 a3).bind fun t138 => ((cosmacref03_In.f kj13 a1 a2 a3).bind fun t139 => (cosmaclaw03_AddrMatchesReference.j2 kj13 a1 a2 (t138 != t139)))) else (if t137 = 4 then ((addr_In.f a1 a2 a3).bind fun t140 => ((cosmacref03_In.f kj13 a1 a2 a3).bind fun t141 => (cosmaclaw03_AddrMatchesReference.j2 kj13 a1 a2 (t140 != t141)))) else (cosmaclaw03_AddrMatchesReference.j2 kj13 a1 a2 true)))) = some r := by rw [if_pos rfl] at H; exact H
                  clear H
                  have H := H1
                  clear H1
                  by_cases c22 : ((t137 == 4) != (decide ((wrap64 (a1 + a2)) > 65536))) = true
                  · rw [if_pos c22] at H
                    have c22b0 : ((t137 == 4) != (decide ((wrap64 (a1 + a2)) > 65536))) = true := c22
                    (try (have c22b1 : decide ((t137 == 4) = (decide ((wrap64 (a1 + a2)) > 65536))) = false := by simpa using c22))
                    (try (have c22b2 : ((t137 == 4) == (decide ((wrap64 (a1 + a2)) > 65536))) = false := by simpa using c22))
                    (try (have c22b3 : ¬ ((t137 == 4) = (decide ((wrap64 (a1 + a2)) > 65536))) := by simpa using c22))
                    clear c22
                    (first | rw [c22b0] | (simp only [i64_w, i32_w]; rw [c22b0]) | skip)
                    have H' := Aside0.mk H
                    clear H
                    go_wp2
                    go_meet
                    case rel => exact ⟨_, (true), (by first | rfl | (simp; done) | (simp [*]; done)), H', ⟨by have := HJ5.out; have := HJ13.out; first | omega | exact Nat.le_refl _⟩, ⟨by repeat (first | (with_reducible first | exact HB.out | apply below_alloc | apply pw_below_drewN | apply below_drew1) | exact HB.out)⟩⟩
                  · rw [if_neg c22] at H
                    have c22b0 : ((t137 == 4) != (decide ((wrap64 (a1 + a2)) > 65536))) = false := by simpa using c22
                    (try (have c22b1 : decide ((t137 == 4) = (decide ((wrap64 (a1 + a2)) > 65536))) = true := by simpa using c22))
                    (try (have c22b2 : ((t137 == 4) == (decide ((wrap64 (a1 + a2)) > 65536))) = true := by simpa using c22))
                    clear c22
                    (first | rw [c22b0] | (simp only [i64_w, i32_w]; rw [c22b0]) | skip)
                    by_cases c23 : t137 = 0
                    · rw [if_pos c23] at H
                      have c23b0 : (t137 == 0) = true := beq_iff_eq.mpr c23
                      have c23b1 : (t137 != 0) = false := bne_eq_false_iff_eq.mpr c23
                      clear c23
                      replace H := Option.bind_eq_some_iff.mp H
                      obtain ⟨t138, A240, H⟩ := H
                      replace H : ((cosmacref03_In.f kj13 a1 a2 a3).bind fun t139 => (cosmaclaw03_AddrMatchesReference.j2 kj13 a1 a2 (t138 != t139))) = some r := H
                      have A24 := Aside0.mk A240
                      clear A240
                      replace H := Option.bind_eq_some_iff.mp H
                      obtain ⟨t139, A250, H⟩ := H
                      replace H : (cosmaclaw03_AddrMatchesReference.j2 kj13 a1 a2 (t138 != t139)) = some r := H
                      have A25 := Aside0.mk A250
                      clear A250
                      have H' := Aside0.mk H
                      clear H
                      go_wp2_with (first | (go_at_call 12; (with_reducible refine (addr_In.calls a1 a2 a3 t138 _ A24.out).mono ?_); rintro e w' ⟨rfl, ⟨nd, rfl⟩⟩) | (go_at_call 13; (with_reducible refine (cosmacref03_In.calls kj13 a1 a2 a3 t139 _ A25.out).mono ?_); rintro e w26 ⟨rfl, hb⟩; have n0_ := Aside0.mk (below_step (by repeat (first | (with_reducible first | exact HB.out | apply below_alloc | apply pw_below_drewN | apply below_drew1) | exact HB.out)) hb); clear HB; have HB := n0_; clear n0_; (try clear hb); (try clear hb2); (try clear hk); (try clear hi)))
                      go_meet
                      case rel => exact ⟨_, ((t138 != t139)), (by first | rfl | (simp; done) | (simp [*]; done)), H', ⟨by have := HJ5.out; have := HJ13.out; first | omega | exact Nat.le_refl _⟩, ⟨by repeat (first | (with_reducible first | exact HB.out | apply below_alloc | apply pw_below_drewN | apply below_drew1) | exact HB.out)⟩⟩
                    · rw [if_neg c23] at H
                      have c23b0 : (t137 == 0) = false := beq_eq_false_iff_ne.mpr c23
                      have c23b1 : (t137 != 0) = true := bne_iff_ne.mpr c23
                      by_cases c27 : t137 = 4
                      · rw [if_pos c27] at H
                        have cX : decide (wrap64 (a1 + a2) > 65536) = true := by have h := c22b0; subst c27; simpa using h
                        have c27b0 : (t137 == 4) = true := beq_iff_eq.mpr c27
                        have c27b1 : (t137 != 4) = false := bne_eq_false_iff_eq.mpr c27
                        clear c27
                        replace H := Option.bind_eq_some_iff.mp H
                        obtain ⟨t140, A280, H⟩ := H
                        replace H : ((cosmacref03_In.f kj13 a1 a2 a3).bind fun t141 => (cosmaclaw03_AddrMatchesReference.j2 kj13 a1 a2 (t140 != t141))) = some r := H
                        have A28 := Aside0.mk A280
                        clear A280
                        replace H := Option.bind_eq_some_iff.mp H
                        obtain ⟨t141, A290, H⟩ := H
                        replace H : (cosmaclaw03_AddrMatchesReference.j2 kj13 a1 a2 (t140 != t141)) = some r := H
                        have A29 := Aside0.mk A290
                        clear A290
                        have H' := Aside0.mk H
                        clear H
                        go_wp2_with (first | (go_at_call 12; (with_reducible refine (addr_In.calls a1 a2 a3 t140 _ A28.out).mono ?_); rintro e w' ⟨rfl, ⟨nd, rfl⟩⟩) | (go_at_call 13; (with_reducible refine (cosmacref03_In.calls kj13 a1 a2 a3 t141 _ A29.out).mono ?_); rintro e w30 ⟨rfl, hb⟩; have n0_ := Aside0.mk (below_step (by repeat (first | (with_reducible first | exact HB.out | apply below_alloc | apply pw_below_drewN | apply below_drew1) | exact HB.out)) hb); clear HB; have HB := n0_; clear n0_; (try clear hb); (try clear hb2); (try clear hk); (try clear hi)))
                        go_meet
                        case rel => exact ⟨_, ((t140 != t141)), (by first | rfl | (simp; done) | (simp [*]; done)), H', ⟨by have := HJ5.out; have := HJ13.out; first | omega | exact Nat.le_refl _⟩, ⟨by repeat (first | (with_reducible first | exact HB.out | apply below_alloc | apply pw_below_drewN | apply below_drew1) | exact HB.out)⟩⟩
                      · rw [if_neg c27] at H
                        have cX : decide (wrap64 (a1 + a2) > 65536) = false := by have h := c22b0; rw [beq_eq_false_iff_ne.mpr c27] at h; simpa using h
                        have c27b0 : (t137 == 4) = false := beq_eq_false_iff_ne.mpr c27
                        have c27b1 : (t137 != 4) = true := bne_iff_ne.mpr c27
                        have H' := Aside0.mk H
                        clear H
                        go_wp2
                        go_meet
                        case rel => exact ⟨_, (true), (by first | rfl | (simp; done) | (simp [*]; done)), H', ⟨by have := HJ5.out; have := HJ13.out; first | omega | exact Nat.le_refl _⟩, ⟨by repeat (first | (with_reducible first | exact HB.out | apply below_alloc | apply pw_below_drewN | apply below_drew1) | exact HB.out)⟩⟩
                · replace c21 := Bool.eq_false_iff.mpr c21
                  subst c21
                  have H1 : (if ((t137 == 4) != false) = true then (cosmaclaw03_AddrMatchesReference.j2 kj13 a1 a2 true) else (if t137 = 0 then ((addr_In.f a1 a2 a3).bind fun t142 => ((cosmacref03_In.f kj13 a1 a2 a3).bind fun t143 => (cosmaclaw03_AddrMatchesReference.j2 kj13 a1 a2 (t142 != t143)))) else (if t137 = 4 then ((addr_In.f a1 a2 a3).bind fun t144 => ((cosmacref03_In.f kj13 a1 a2 a3).bind fun t145 => (cosmaclaw03_AddrMatchesReference.j2 kj13 a1 a2 (t144 != t145)))) else (cosmaclaw03_AddrMatchesReference.j2 kj13 a1 a2 true)))) = some r := by rw [if_neg (show ¬ (false = true) by decide)] at H; exact H
                  clear H
                  have H := H1
                  clear H1
                  by_cases c31 : ((t137 == 4) != false) = true
                  · rw [if_pos c31] at H
                    have c31b0 : ((t137 == 4) != false) = true := c31
                    (try (have c31b1 : decide ((t137 == 4) = false) = false := by simpa using c31))
                    (try (have c31b2 : ((t137 == 4) == false) = false := by simpa using c31))
                    (try (have c31b3 : ¬ ((t137 == 4) = false) := by simpa using c31))
                    clear c31
                    have H' := Aside0.mk H
                    clear H
                    go_wp2
                    go_meet
                    case rel => exact ⟨_, (true), (by first | rfl | (simp; done) | (simp [*]; done)), H', ⟨by have := HJ5.out; have := HJ13.out; first | omega | exact Nat.le_refl _⟩, ⟨by repeat (first | (with_reducible first | exact HB.out | apply below_alloc | apply pw_below_drewN | apply below_drew1) | exact HB.out)⟩⟩
                  · rw [if_neg c31] at H
                    have c31b0 : ((t137 == 4) != false) = false := by simpa using c31
                    (try (have c31b1 : decide ((t137 == 4) = false) = true := by simpa using c31))
                    (try (have c31b2 : ((t137 == 4) == false) = true := by simpa using c31))
                    clear c31
                    by_cases c32 : t137 = 0
                    · rw [if_pos c32] at H
                      have c32b0 : (t137 == 0) = true := beq_iff_eq.mpr c32
                      have c32b1 : (t137 != 0) = false := bne_eq_false_iff_eq.mpr c32
                      clear c32
                      replace H := Option.bind_eq_some_iff.mp H
                      obtain ⟨t142, A330, H⟩ := H
                      replace H : ((cosmacref03_In.f kj13 a1 a2 a3).bind fun t143 => (cosmaclaw03_AddrMatchesReference.j2 kj13 a1 a2 (t142 != t143))) = some r := H
                      have A33 := Aside0.mk A330
                      clear A330
                      replace H := Option.bind_eq_some_iff.mp H
                      obtain ⟨t143, A340, H⟩ := H
                      replace H : (cosmaclaw03_AddrMatchesReference.j2 kj13 a1 a2 (t142 != t143)) = some r := H
                      have A34 := Aside0.mk A340
                      clear A340
                      have H' := Aside0.mk H
                      clear H
                      go_wp2_with (first | (go_at_call 12; (with_reducible refine (addr_In.calls a1 a2 a3 t142 _ A33.out).mono ?_); rintro e w' ⟨rfl, ⟨nd, rfl⟩⟩) | (go_at_call 13; (with_reducible refine (cosmacref03_In.calls kj13 a1 a2 a3 t143 _ A34.out).mono ?_); rintro e w35 ⟨rfl, hb⟩; have n0_ := Aside0.mk (below_step (by repeat (first | (with_reducible first | exact HB.out | apply below_alloc | apply pw_below_drewN | apply below_drew1) | exact HB.out)) hb); clear HB; have HB := n0_; clear n0_; (try clear hb); (try clear hb2); (try clear hk); (try clear hi)))
                      go_meet
                      case rel => exact ⟨_, ((t142 != t143)), (by first | rfl | (simp; done) | (simp [*]; done)), H', ⟨by have := HJ5.out; have := HJ13.out; first | omega | exact Nat.le_refl _⟩, ⟨by repeat (first | (with_reducible first | exact HB.out | apply below_alloc | apply pw_below_drewN | apply below_drew1) | exact HB.out)⟩⟩
                    · rw [if_neg c32] at H
                      have c32b0 : (t137 == 0) = false := beq_eq_false_iff_ne.mpr c32
                      have c32b1 : (t137 != 0) = true := bne_iff_ne.mpr c32
                      by_cases c36 : t137 = 4
                      · exact absurd c31b0 (by rw [c36]; decide)
                      · rw [if_neg c36] at H
                        have c36b0 : (t137 == 4) = false := beq_eq_false_iff_ne.mpr c36
                        have c36b1 : (t137 != 4) = true := bne_iff_ne.mpr c36
                        have H' := Aside0.mk H
                        clear H
                        go_wp2
                        go_meet
                        case rel => exact ⟨_, (true), (by first | rfl | (simp; done) | (simp [*]; done)), H', ⟨by have := HJ5.out; have := HJ13.out; first | omega | exact Nat.le_refl _⟩, ⟨by repeat (first | (with_reducible first | exact HB.out | apply below_alloc | apply pw_below_drewN | apply below_drew1) | exact HB.out)⟩⟩
              case rest =>
                clear HC20
                try clear c1
                try clear c2
                try clear p2
                try clear c3
                try clear p6
                try clear c7
                try clear c8
                try clear c10
                try clear c11
                try clear c13
                try clear c16
                try clear c18
                try clear c21
                try clear c22
                try clear c22b0
                try clear c22b1
                try clear c22b2
                try clear c23
                try clear c23b0
                try clear c23b1
                try clear c27
                try clear c27b0
                try clear c27b1
                try clear c31
                try clear c31b0
                try clear c31b1
                try clear c31b2
                try clear c32
                try clear c32b0
                try clear c32b1
                try clear c36
                try clear c36b0
                try clear c36b1
                try clear p2
                obtain ⟨kq, x62_19, rfl, HA, HJ19, HB⟩ := hcut
                cases kq with
                | zero => exact absurd HA.out (by simp [cosmaclaw03_AddrMatchesReference.j2])
                | succ kj19 =>
                  have H := HA.out
                  clear HA
                  simp only [cosmaclaw03_AddrMatchesReference.j2] at H
                  by_cases c40 : x62_19 = true
                  · subst c40
                    have H1 : (some false) = some r := by rw [if_pos rfl] at H; exact H
                    clear H
                    have H := H1
                    clear H1
                    obtain rfl := Option.some.inj H
                    go_wp2
                    go_ret
                    exact ⟨by first | rfl | (simp [errW_none, errW_some] <;> rfl) | (simp [*, errW_none, errW_some] <;> rfl), by repeat (first | (with_reducible first | exact HB.out | apply below_alloc | apply pw_below_drewN | apply below_drew1) | exact HB.out)⟩
                  · replace c40 := Bool.eq_false_iff.mpr c40
                    subst c40
                    have H1 : (if a2 > 2000 then (some true) else ((addr_List.f kj19 a1 a2).bind fun t146 => ((cosmacref03_List.f kj19 a1 a2).bind fun t149 => ((cosmacref03_Numbers.f kj19 t146 t149).bind fun t152 => (some t152))))) = some r := by rw [if_neg (show ¬ (false = true) by decide)] at H; exact H
                    clear H
                    have H := H1
                    clear H1
                    by_cases c41 : a2 > 2000
                    · rw [if_pos c41] at H
                      have c41b0 : decide (2000 < a2) = true := decide_eq_true c41
                      clear c41
                      obtain rfl := Option.some.inj H
                      go_wp2
                      go_ret
                      exact ⟨by first | rfl | (simp [errW_none, errW_some] <;> rfl) | (simp [*, errW_none, errW_some] <;> rfl), by repeat (first | (with_reducible first | exact HB.out | apply below_alloc | apply pw_below_drewN | apply below_drew1) | exact HB.out)⟩
                    · rw [if_neg c41] at H
                      have c41b0 : decide (2000 < a2) = false := decide_eq_false c41
                      clear c41
                      replace H := Option.bind_eq_some_iff.mp H
                      obtain ⟨t146, A420, H⟩ := H
                      replace H : ((cosmacref03_List.f kj19 a1 a2).bind fun t149 => ((cosmacref03_Numbers.f kj19 t146 t149).bind fun t152 => (some t152))) = some r := H
                      have A42 := Aside0.mk A420
                      clear A420
                      replace H := Option.bind_eq_some_iff.mp H
                      obtain ⟨t149, A430, H⟩ := H
                      replace H : ((cosmacref03_Numbers.f kj19 t146 t149).bind fun t152 => (some t152)) = some r := H
                      have A43 := Aside0.mk A430
                      clear A430
                      replace H := Option.bind_eq_some_iff.mp H
                      obtain ⟨t152, A440, H⟩ := H
                      replace H : (some t152) = some r := H
                      have A44 := Aside0.mk A440
                      clear A440
                      obtain rfl := Option.some.inj H
                      go_wp2_with (first | (go_at_call 15; (with_reducible refine (addr_List.calls kj19 a1 a2 t146 _ A42.out).mono ?_); rintro e w45 ⟨v147, rfl, ho0, hb⟩; have n0_ := Aside0.mk (Kd.R_lower ho0 (below_size (by repeat (first | (with_reducible first | exact HB.out | apply below_alloc | apply pw_below_drewN | apply below_drew1) | exact HB.out)))); have n1_ := Aside0.mk (below_step (by repeat (first | (with_reducible first | exact HB.out | apply below_alloc | apply pw_below_drewN | apply below_drew1) | exact HB.out)) hb); clear HB; have HO148 := n0_; have HB := n1_; clear n0_ n1_; (try clear hb); (try clear hb2); (try clear hk); (try clear hi); (try clear ho0)) | (go_at_call 16; (with_reducible refine (cosmacref03_List.calls kj19 a1 a2 t149 _ A43.out).mono ?_); rintro e w46 ⟨v150, rfl, ho0, hb⟩; have n0_ := Aside0.mk (Kd.R_elder' (by (with_reducible repeat (first | apply Kd.R_alloc | apply Kd.R_drewN | apply Kd.R_drew)); exact HO148.out) (Kd.R_base ho0) hb); have n1_ := Aside0.mk (Kd.R_lower (Kd.R_new' ho0 (Kd.R_lt (by (with_reducible repeat (first | apply Kd.R_alloc | apply Kd.R_drewN | apply Kd.R_drew)); exact HO148.out))) (below_size (by repeat (first | (with_reducible first | exact HB.out | apply below_alloc | apply pw_below_drewN | apply below_drew1) | exact HB.out)))); have n2_ := Aside0.mk (below_step (by repeat (first | (with_reducible first | exact HB.out | apply below_alloc | apply pw_below_drewN | apply below_drew1) | exact HB.out)) hb); clear HO148; clear HB; have HO148 := n0_; have HO151 := n1_; have HB := n2_; clear n0_ n1_ n2_; (try clear hb); (try clear hb2); (try clear hk); (try clear hi); (try clear ho0); obtain ⟨Ao47, co47, eo47⟩ := Kd.R_slice HO148.out; subst eo47; obtain ⟨Ao48, co48, eo48⟩ := Kd.R_slice HO151.out; subst eo48) | (go_at_call 14; (with_reducible refine (cosmacref03_Numbers.calls kj19 _ _ t146 _ _ t149 t152 _ ?side1 ?side2 ?side3 ?side4 A44.out).mono ?_); (case side1 => repeat (first | exact (Kd.R_reads' HO148.out).2.2 | (with_reducible refine Kd.C_alloc ?_ _) | (with_reducible refine Kd.C_drewN ?_ _) | (with_reducible refine Kd.C_drew ?_))); (case side2 => exact (Kd.R_reads' HO148.out).2.1); (case side3 => repeat (first | exact (Kd.R_reads' HO151.out).2.2 | (with_reducible refine Kd.C_alloc ?_ _) | (with_reducible refine Kd.C_drewN ?_ _) | (with_reducible refine Kd.C_drew ?_))); (case side4 => exact (Kd.R_reads' HO151.out).2.1); rintro e w' ⟨rfl, ⟨nd, rfl⟩⟩))
                      go_ret
                      exact ⟨by first | rfl | (simp [errW_none, errW_some] <;> rfl) | (simp [*, errW_none, errW_some] <;> rfl), by repeat (first | (with_reducible first | exact HB.out | apply below_alloc | apply pw_below_drewN | apply below_drew1) | exact HB.out)⟩

/-- THE ONE PURE STATEMENT of cosmaclaw03_AddrMatchesReference: yours. -/
def cosmaclaw03_AddrMatchesReference.Pure : Prop := ∀ (a0 : Int) (a1 : Int) (a2 : Int) (a3 : Int) (a4 : Bool), (Lit.int .i64 a0).wf = true → (Lit.int .i64 a1).wf = true → (Lit.int .i64 a2).wf = true → (Lit.int .i64 a3).wf = true → ∃ k, cosmaclaw03_AddrMatchesReference.f k a0 a1 a2 a3 a4 = some true
theorem cosmaclaw03_AddrMatchesReference.walk (P : cosmaclaw03_AddrMatchesReference.Pure) (a0 : Int) (a1 : Int) (a2 : Int) (a3 : Int) (a4 : Bool) (w : World) (w0 : (Lit.int .i64 a0).wf = true) (w1 : (Lit.int .i64 a1).wf = true) (w2 : (Lit.int .i64 a2).wf = true) (w3 : (Lit.int .i64 a3).wf = true) :
    Calls Try.prog 3 #[.int .i64 a0, .int .i64 a1, .int .i64 a2, .int .i64 a3, .bool a4] w fun e w' => e = .returned (.bool true) ∧ Below w.heap.size w w' := by
  obtain ⟨k, h⟩ := P a0 a1 a2 a3 a4 w0 w1 w2 w3
  refine (cosmaclaw03_AddrMatchesReference.calls k a0 a1 a2 a3 a4 true w h).mono ?_
  rintro e w' ⟨rfl, hd⟩
  exact ⟨rfl, hd⟩

end Go.Proofs.Ytpccokimjmmmoaa.PAddrMatchesReference
