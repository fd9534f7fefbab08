/- Ticking one by one k = n mod 600 times is the value minus k, but not less than 0; for every delay, sound: byte, and every n: uint16. -/
import Derived.Test.YtjpkpojgcckhkaaPTimerCountsx4
import Derived.OpenShut
import Derived.IntWalk
namespace Go.Proofs.Ytjpkpojgcckhkaa.Pure
open Go.RowKit Go.Proofs.Ytjpkpojgcckhkaa.PTimerCounts Go.Proofs.YtjpkpojgcckhkaaW.PrintWords Go.Proofs.YtjpkpojgcckhkaaW.PrintLast

/-- What a timer v is after n ticks. -/
def dn (v n : Int) : Int := if n < 0 then v else if v ≤ n then 0 else v - n

theorem dn_bounds (v n : Int) (h0 : 0 ≤ v) (h1 : v ≤ 255) : 0 ≤ dn v n ∧ dn v n ≤ 255 := by
  unfold dn
  split
  · omega
  · split <;> omega

theorem less_tells (v n : Int) (h0 : 0 ≤ v) (h1 : v ≤ 255) (hn : 0 ≤ n) : timer_less_byte.f v n = some (dn v n) := by
  unfold timer_less_byte.f dn
  rw [IntWalk.u64_in v ⟨h0, by omega⟩, if_neg (show ¬ n < 0 by omega)]
  by_cases h : v ≤ n
  · rw [if_pos h, if_pos h]
  · rw [if_neg h, if_neg h]
    congr 1
    omega

theorem after_tells (a b n : Int) (a0 : 0 ≤ a) (a1 : a ≤ 255) (b0 : 0 ≤ b) (b1 : b ≤ 255) (hn : n ≤ 9223372036854775807) :
    timer_After.f a b n = some (dn a n, dn b n) := by
  have hm : IntKind.u64.wrap (mx n 0) = mx n 0 := IntWalk.u64_in _ (by unfold mx; split <;> omega)
  have h0 : 0 ≤ mx n 0 := by unfold mx; split <;> omega
  have he : ∀ v : Int, 0 ≤ v → dn v (mx n 0) = dn v n := by
    intro v hv
    unfold mx dn
    by_cases h : n < 0
    · simp only [if_pos h]
      rw [if_neg (by omega)]
      split <;> omega
    · simp only [if_neg h]
  unfold timer_After.f
  rw [hm, less_tells a _ a0 a1 h0, less_tells b _ b0 b1 h0, he a a0, he b b0]
  rfl

theorem tick_tells (a b : Int) (a0 : 0 ≤ a) (a1 : a ≤ 255) (b0 : 0 ≤ b) (b1 : b ≤ 255) : timer_Tick.f a b = some (dn a 1, dn b 1) := by
  unfold timer_Tick.f
  rw [after_tells a b 1 a0 a1 b0 b1 (by omega)]
  rfl

theorem left_tells (a b : Int) (a0 : 0 ≤ a) (a1 : a ≤ 255) (b0 : 0 ≤ b) (b1 : b ≤ 255) : timer_Left.f a b = some (mx a b) := by
  unfold timer_Left.f
  congr 1
  unfold mx wrap64
  split <;> omega

theorem awake_tells : cosmaclaw10_awake.f = some true := by decide +kernel

theorem dn_step (v i : Int) (hi : 0 ≤ i) : dn (dn v i) 1 = dn v (i + 1) := by
  unfold dn
  rw [if_neg (show ¬ (1 : Int) < 0 by omega), if_neg (show ¬ i < 0 by omega), if_neg (show ¬ i + 1 < 0 by omega)]
  repeat' split
  all_goals omega

theorem counts_loop (a b K : Int) (a0 : 0 ≤ a) (a1 : a ≤ 255) (b0 : 0 ≤ b) (b1 : b ≤ 255) (K0 : 0 ≤ K) (K1 : K ≤ 600) (d : Nat) : ∀ (k : Nat) (i : Int), 0 ≤ i → i ≤ K → K - i = d → d < k →
    cosmaclaw10_TimerCounts.l0 k a b K i a b (dn a i) (dn b i) = some true := by
  induction d with
  | zero =>
    intro k i h0 h1 hd hk
    obtain ⟨k, rfl⟩ : ∃ m, k = m + 1 := ⟨k - 1, by omega⟩
    obtain rfl : i = K := by omega
    have da := dn_bounds a i a0 a1
    have db := dn_bounds b i b0 b1
    have ha : dn a i = mx 0 (a - i) := by unfold dn mx; rw [if_neg (by omega)]; split <;> split <;> omega
    have hb : dn b i = mx 0 (b - i) := by unfold dn mx; rw [if_neg (by omega)]; split <;> split <;> omega
    have wa : wrap64 (dn a i) = dn a i := by unfold wrap64; omega
    have wb : wrap64 (dn b i) = dn b i := by unfold wrap64; omega
    have w1 : wrap64 (wrap64 a - i) = a - i := by unfold wrap64; omega
    have w2 : wrap64 (wrap64 b - i) = b - i := by unfold wrap64; omega
    have hm : 0 ≤ mx a b ∧ mx a b ≤ 255 := by unfold mx; split <;> omega
    have w3 : wrap64 (mx a b - i) = mx a b - i := by unfold wrap64; omega
    have hl : mx (dn a i) (dn b i) = mx 0 (mx a b - i) := by
      rw [ha, hb]; unfold mx
      repeat' split
      all_goals omega
    simp only [cosmaclaw10_TimerCounts.l0]
    rw [if_neg (by omega), wa, wb, w1, w2, if_pos ha, if_pos hb, after_tells a b i a0 a1 b0 b1 (by omega)]
    simp only [Option.bind_some, beq_self_eq_true, Bool.and_self, if_true]
    rw [left_tells _ _ da.1 da.2 db.1 db.2, left_tells a b a0 a1 b0 b1]
    simp only [Option.bind_some]
    rw [w3, hl, beq_self_eq_true]
  | succ d ih =>
    intro k i h0 h1 hd hk
    obtain ⟨k, rfl⟩ : ∃ m, k = m + 1 := ⟨k - 1, by omega⟩
    have da := dn_bounds a i a0 a1
    have db := dn_bounds b i b0 b1
    have hw : wrap64 (i + 1) = i + 1 := by unfold wrap64; omega
    simp only [cosmaclaw10_TimerCounts.l0]
    rw [if_pos (by omega), tick_tells _ _ da.1 da.2 db.1 db.2]
    simp only [Option.bind_some]
    rw [hw, dn_step a i h0, dn_step b i h0]
    exact ih k (i + 1) (by omega) (by omega) (by omega) (by omega)

theorem TimerCounts : cosmaclaw10_TimerCounts.Pure := by
  intro a b n wa wb wn
  obtain ⟨a0, a1⟩ := bounds_u8 wa
  obtain ⟨b0, b1⟩ := bounds_u8 wb
  obtain ⟨n0, n1⟩ := bounds_u16 wn
  have hw : wrap64 n = n := by unfold wrap64; omega
  have ht : Int.tmod n 600 = n % 600 := Int.tmod_eq_emod_of_nonneg n0
  have ha : dn a 0 = a := by unfold dn; rw [if_neg (by omega)]; split <;> omega
  have hb : dn b 0 = b := by unfold dn; rw [if_neg (by omega)]; split <;> omega
  refine ⟨601, ?_⟩
  have h := counts_loop a b (n % 600) a0 a1 b0 b1 (by omega) (by omega) (n % 600).toNat 601 0 (by omega) (by omega) (by omega) (by omega)
  rw [ha, hb] at h
  unfold cosmaclaw10_TimerCounts.f
  rw [awake_tells]
  simp only [Option.bind_some, if_true]
  rw [hw, ht]
  exact h

end Go.Proofs.Ytjpkpojgcckhkaa.Pure
