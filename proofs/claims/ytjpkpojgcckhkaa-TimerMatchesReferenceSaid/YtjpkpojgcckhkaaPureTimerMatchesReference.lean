/- For all timers and numbers of ticks, Tick, After, On and Left return what the reference returns; for every delay, sound: byte, and every n: int. -/
import Derived.Test.YtjpkpojgcckhkaaPTimerMatchesReferencex4
import Derived.OpenShut
import Derived.IntWalk
namespace Go.Proofs.Ytjpkpojgcckhkaa.Pure
open Go.RowKit Go.Proofs.Ytjpkpojgcckhkaa.PTimerMatchesReference Go.Proofs.YtjpkpojgcckhkaaW.PrintWords Go.Proofs.YtjpkpojgcckhkaaW.PrintLast

/-- What a timer v is after n ticks. -/
def dn (v n : Int) : Int := if n < 0 then v else if v ≤ n then 0 else v - n

theorem dn_bounds (v n : Int) (h0 : 0 ≤ v) (h1 : v ≤ 255) : 0 ≤ dn v n ∧ dn v n ≤ 255 := by
  unfold dn
  split
  · omega
  · split <;> omega

theorem less_tells (v n : Int) (h0 : 0 ≤ v) (h1 : v ≤ 255) (hn : 0 ≤ n) : timer_less_byte.f v n = some (dn v n) := by
  unfold timer_less_byte.f dn
  rw [IntWalk.u64_in v ⟨h0, by omega⟩, if_neg (show ¬ n < 0 by omega)]
  by_cases h : v ≤ n
  · rw [if_pos h, if_pos h]
  · rw [if_neg h, if_neg h]
    congr 1
    omega

theorem after_tells (a b n : Int) (a0 : 0 ≤ a) (a1 : a ≤ 255) (b0 : 0 ≤ b) (b1 : b ≤ 255) (hn : n ≤ 9223372036854775807) :
    timer_After.f a b n = some (dn a n, dn b n) := by
  have hm : IntKind.u64.wrap (mx n 0) = mx n 0 := IntWalk.u64_in _ (by unfold mx; split <;> omega)
  have h0 : 0 ≤ mx n 0 := by unfold mx; split <;> omega
  have he : ∀ v : Int, 0 ≤ v → dn v (mx n 0) = dn v n := by
    intro v hv
    unfold mx dn
    by_cases h : n < 0
    · simp only [if_pos h]
      rw [if_neg (by omega)]
      split <;> omega
    · simp only [if_neg h]
  unfold timer_After.f
  rw [hm, less_tells a _ a0 a1 h0, less_tells b _ b0 b1 h0, he a a0, he b b0]
  rfl

theorem tick_tells (a b : Int) (a0 : 0 ≤ a) (a1 : a ≤ 255) (b0 : 0 ≤ b) (b1 : b ≤ 255) : timer_Tick.f a b = some (dn a 1, dn b 1) := by
  unfold timer_Tick.f
  rw [after_tells a b 1 a0 a1 b0 b1 (by omega)]
  rfl

theorem left_tells (a b : Int) (a0 : 0 ≤ a) (a1 : a ≤ 255) (b0 : 0 ≤ b) (b1 : b ≤ 255) : timer_Left.f a b = some (mx a b) := by
  unfold timer_Left.f
  congr 1
  unfold mx wrap64
  split <;> omega

theorem awake_tells : cosmaclaw10_awake.f = some true := by decide +kernel

theorem reftick_tells (v : Int) (h0 : 0 ≤ v) (h1 : v ≤ 255) : cosmacref10_Tick.f v = some (dn v 1) := by
  unfold cosmacref10_Tick.f dn
  rw [if_neg (show ¬ (1 : Int) < 0 by omega)]
  by_cases h : v = 0
  · rw [if_pos h, if_pos (by omega)]
  · rw [if_neg h]
    by_cases h2 : v ≤ 1
    · rw [if_pos h2]
      congr 1
      omega
    · rw [if_neg h2]
      congr 1
      omega

theorem refafter_loop (n : Int) (hn : n ≤ 9223372036854775807) (d : Nat) : ∀ (k : Nat) (v i : Int), 0 ≤ v → v ≤ 255 → v = d → 0 ≤ i → d < k →
    cosmacref10_After.l0 k v n i = some (dn v (mx (n - i) 0)) := by
  induction d with
  | zero =>
    intro k v i h0 h1 hd hi hk
    obtain ⟨k, rfl⟩ : ∃ m, k = m + 1 := ⟨k - 1, by omega⟩
    simp only [cosmacref10_After.l0]
    have hv : dn v (mx (n - i) 0) = v := by unfold dn mx; split <;> split <;> (try split) <;> omega
    rw [hv]
    by_cases h : i < n
    · rw [if_pos h, if_neg (by omega)]
    · rw [if_neg h]
  | succ d ih =>
    intro k v i h0 h1 hd hi hk
    obtain ⟨k, rfl⟩ : ∃ m, k = m + 1 := ⟨k - 1, by omega⟩
    simp only [cosmacref10_After.l0]
    by_cases h : i < n
    · have hw : wrap64 (i + 1) = i + 1 := by unfold wrap64; omega
      have hv : dn v 1 = v - 1 := by unfold dn; rw [if_neg (by omega)]; split <;> omega
      rw [if_pos h, if_pos (by omega), reftick_tells v h0 h1]
      simp only [Option.bind_some]
      rw [hw, hv, ih k (v - 1) (i + 1) (by omega) (by omega) (by omega) (by omega) (by omega)]
      congr 1
      unfold dn mx
      split <;> split <;> (try split) <;> (try split) <;> (try split) <;> (try split) <;> omega
    · rw [if_neg h]
      congr 1
      unfold dn mx
      split <;> split <;> (try split) <;> omega

theorem refafter_tells (v n : Int) (h0 : 0 ≤ v) (h1 : v ≤ 255) (hn : n ≤ 9223372036854775807) : cosmacref10_After.f 256 v n = some (dn v n) := by
  unfold cosmacref10_After.f
  rw [refafter_loop n hn v.toNat 256 v 0 h0 h1 (by omega) (by omega) (by omega)]
  congr 1
  unfold dn mx
  split <;> split <;> (try split) <;> (try split) <;> omega

theorem TimerMatchesReference : cosmaclaw10_TimerMatchesReference.Pure := by
  intro a b n wa wb wn
  obtain ⟨a0, a1⟩ := bounds_u8 wa
  obtain ⟨b0, b1⟩ := bounds_u8 wb
  obtain ⟨n0, n1⟩ := bounds_i64 wn
  have hx : wrap64 (mx a b) = mx a b := by unfold wrap64 mx; split <;> omega
  have hon : (decide (b > 0) == (b != 0)) = true := by
    by_cases h : b = 0
    · subst h; rfl
    · have h2 : decide (b > 0) = true := decide_eq_true (by omega)
      have h3 : (b != 0) = true := by simpa using h
      rw [h2, h3]; rfl
  refine ⟨256, ?_⟩
  unfold cosmaclaw10_TimerMatchesReference.f
  rw [awake_tells]
  simp only [Option.bind_some, if_true]
  rw [tick_tells a b a0 a1 b0 b1, reftick_tells a a0 a1, reftick_tells b b0 b1]
  simp only [Option.bind_some, beq_self_eq_true, Bool.and_self, if_true]
  rw [after_tells a b n a0 a1 b0 b1 n1, refafter_tells a n a0 a1 n1, refafter_tells b n b0 b1 n1]
  simp only [Option.bind_some, beq_self_eq_true, Bool.and_self, if_true]
  unfold timer_On.f
  simp only [Option.bind_some]
  rw [if_pos hon, left_tells a b a0 a1 b0 b1, hx]
  simp only [Option.bind_some, beq_self_eq_true]

end Go.Proofs.Ytjpkpojgcckhkaa.Pure
