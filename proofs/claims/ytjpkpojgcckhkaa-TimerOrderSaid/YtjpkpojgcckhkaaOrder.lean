/- A timer that was not less before is not less after any number of ticks; for every a, b: byte, and every n: uint16. -/
import Derived.Test.YtjpkpojgcckhkaaPTimerOrderx3
import Derived.OpenShut
import Derived.IntWalk
namespace Go.Proofs.Ytjpkpojgcckhkaa.Pure
open Go.RowKit Go.Proofs.Ytjpkpojgcckhkaa.PTimerOrder Go.Proofs.YtjpkpojgcckhkaaW.PrintWords Go.Proofs.YtjpkpojgcckhkaaW.PrintLast Go.Proofs.YtjpkpojgcckhkaaW.PrintMore
attribute [local go_sem] max2_int min2_int max_two min_two

/-- What a timer v is after n ticks. -/
def dn (v n : Int) : Int := if n < 0 then v else if v ≤ n then 0 else v - n

theorem dn_bounds (v n : Int) (h0 : 0 ≤ v) (h1 : v ≤ 255) : 0 ≤ dn v n ∧ dn v n ≤ 255 := by
  unfold dn
  split
  · omega
  · split <;> omega

theorem less_tells (v n : Int) (h0 : 0 ≤ v) (h1 : v ≤ 255) (hn : 0 ≤ n) : timer_less_byte.f v n = some (dn v n) := by
  unfold timer_less_byte.f dn
  rw [IntWalk.u64_in v ⟨h0, by omega⟩, if_neg (show ¬ n < 0 by omega)]
  by_cases h : v ≤ n
  · rw [if_pos h, if_pos h]
  · rw [if_neg h, if_neg h]
    congr 1
    omega

theorem after_tells (a b n : Int) (a0 : 0 ≤ a) (a1 : a ≤ 255) (b0 : 0 ≤ b) (b1 : b ≤ 255) (hn : n ≤ 9223372036854775807) :
    timer_After.f a b n = some (dn a n, dn b n) := by
  have hm : IntKind.u64.wrap (mx n 0) = mx n 0 := IntWalk.u64_in _ (by unfold mx; split <;> omega)
  have h0 : 0 ≤ mx n 0 := by unfold mx; split <;> omega
  have he : ∀ v : Int, 0 ≤ v → dn v (mx n 0) = dn v n := by
    intro v hv
    unfold mx dn
    by_cases h : n < 0
    · simp only [if_pos h]
      rw [if_neg (by omega)]
      split <;> omega
    · simp only [if_neg h]
  unfold timer_After.f
  rw [hm, less_tells a _ a0 a1 h0, less_tells b _ b0 b1 h0, he a a0, he b b0]
  rfl

theorem tick_tells (a b : Int) (a0 : 0 ≤ a) (a1 : a ≤ 255) (b0 : 0 ≤ b) (b1 : b ≤ 255) : timer_Tick.f a b = some (dn a 1, dn b 1) := by
  unfold timer_Tick.f
  rw [after_tells a b 1 a0 a1 b0 b1 (by omega)]
  rfl

theorem left_tells (a b : Int) (a0 : 0 ≤ a) (a1 : a ≤ 255) (b0 : 0 ≤ b) (b1 : b ≤ 255) : timer_Left.f a b = some (mx a b) := by
  unfold timer_Left.f
  congr 1
  unfold mx wrap64
  split <;> omega

theorem awake_tells : cosmaclaw10_awake.f = some true := by decide +kernel

/-- For every a, b: byte, n: uint16 the call of TimerOrder returns true; nothing that lay in memory has changed. -/
theorem order_walk (a b n : Int) (w : World) (wa : (Lit.int .u8 a).wf = true) (wb : (Lit.int .u8 b).wf = true) (wn : (Lit.int .u16 n).wf = true) :
    Calls Try.prog 6 #[.int .u8 a, .int .u8 b, .int .u16 n] w fun e w' => e = .returned (.bool true) ∧ Below w.heap.size w w' := by
  obtain ⟨a0, a1⟩ := bounds_u8 wa
  obtain ⟨b0, b1⟩ := bounds_u8 wb
  obtain ⟨n0, n1⟩ := bounds_u16 wn
  have m0 : 0 ≤ mn a b ∧ mn a b ≤ 255 ∧ mn a b ≤ mx a b := by unfold mn mx; split <;> split <;> omega
  have x0 : 0 ≤ mx a b ∧ mx a b ≤ 255 := by unfold mx; split <;> omega
  obtain ⟨y, hy⟩ : ∃ y, mn a b = y := ⟨_, rfl⟩
  obtain ⟨x, hx⟩ : ∃ x, mx a b = x := ⟨_, rfl⟩
  rw [hx, hy] at m0
  rw [hx] at x0
  have hA := Aside0.mk (after_tells y x n (by omega) (by omega) (by omega) (by omega) (by omega))
  have h1 : dn y n ≤ dn x n := by
    unfold dn
    rw [if_neg (show ¬ n < 0 by omega), if_neg (show ¬ n < 0 by omega)]
    repeat' split
    all_goals omega
  have h2 : dn x n ≤ x := by
    unfold dn
    rw [if_neg (show ¬ n < 0 by omega)]
    repeat' split
    all_goals omega
  obtain ⟨r, hr⟩ : ∃ r, dn y n = r := ⟨_, rfl⟩
  obtain ⟨s, hs⟩ : ∃ s, dn x n = s := ⟨_, rfl⟩
  rw [hr, hs] at hA h1
  rw [hs] at h2
  have c1 : decide (r ≤ s) = true := decide_eq_true h1
  have c2 : decide (s ≤ x) = true := decide_eq_true h2
  have hy_ : (if b < a then b else a) = y := hy
  have hx_ : (if a < b then b else a) = x := hx
  have HW := Aside0.mk awake_tells
  have HB := Aside0.mk (Below.refl w.heap.size w)
  clear h1 h2 hr hs hy hx m0 x0 wa wb wn
  go_enter Try.func6, Try.ntmps6
  go_wp2_with (first
    | (go_at_call 7; refine (cosmaclaw10_awake.calls true _ HW.out).mono ?_; rintro e w1 ⟨rfl, hb⟩; have HB1 := Aside0.mk (below_step HB.out hb); clear HB hb)
    | (go_at_call 10; refine (timer_After.calls y x n r s _ hA.out).mono ?_; rintro e w2 ⟨rfl, hb⟩))
  go_ret
  exact ⟨rfl, below_alloc (below_step HB1.out hb) _⟩

end Go.Proofs.Ytjpkpojgcckhkaa.Pure
