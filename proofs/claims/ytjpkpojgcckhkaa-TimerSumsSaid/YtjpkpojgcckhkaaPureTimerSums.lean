/- Ticks are added up, and after Left ticks both timers are 0; for every delay, sound, n, m: byte. -/
import Derived.Test.YtjpkpojgcckhkaaPTimerSumsx4
import Derived.OpenShut
import Derived.IntWalk
namespace Go.Proofs.Ytjpkpojgcckhkaa.Pure
open Go.RowKit Go.Proofs.Ytjpkpojgcckhkaa.PTimerSums Go.Proofs.YtjpkpojgcckhkaaW.PrintWords Go.Proofs.YtjpkpojgcckhkaaW.PrintLast

/-- What a timer v is after n ticks. -/
def dn (v n : Int) : Int := if n < 0 then v else if v ≤ n then 0 else v - n

theorem dn_bounds (v n : Int) (h0 : 0 ≤ v) (h1 : v ≤ 255) : 0 ≤ dn v n ∧ dn v n ≤ 255 := by
  unfold dn
  split
  · omega
  · split <;> omega

theorem less_tells (v n : Int) (h0 : 0 ≤ v) (h1 : v ≤ 255) (hn : 0 ≤ n) : timer_less_byte.f v n = some (dn v n) := by
  unfold timer_less_byte.f dn
  rw [IntWalk.u64_in v ⟨h0, by omega⟩, if_neg (show ¬ n < 0 by omega)]
  by_cases h : v ≤ n
  · rw [if_pos h, if_pos h]
  · rw [if_neg h, if_neg h]
    congr 1
    omega

theorem after_tells (a b n : Int) (a0 : 0 ≤ a) (a1 : a ≤ 255) (b0 : 0 ≤ b) (b1 : b ≤ 255) (hn : n ≤ 9223372036854775807) :
    timer_After.f a b n = some (dn a n, dn b n) := by
  have hm : IntKind.u64.wrap (mx n 0) = mx n 0 := IntWalk.u64_in _ (by unfold mx; split <;> omega)
  have h0 : 0 ≤ mx n 0 := by unfold mx; split <;> omega
  have he : ∀ v : Int, 0 ≤ v → dn v (mx n 0) = dn v n := by
    intro v hv
    unfold mx dn
    by_cases h : n < 0
    · simp only [if_pos h]
      rw [if_neg (by omega)]
      split <;> omega
    · simp only [if_neg h]
  unfold timer_After.f
  rw [hm, less_tells a _ a0 a1 h0, less_tells b _ b0 b1 h0, he a a0, he b b0]
  rfl

theorem tick_tells (a b : Int) (a0 : 0 ≤ a) (a1 : a ≤ 255) (b0 : 0 ≤ b) (b1 : b ≤ 255) : timer_Tick.f a b = some (dn a 1, dn b 1) := by
  unfold timer_Tick.f
  rw [after_tells a b 1 a0 a1 b0 b1 (by omega)]
  rfl

theorem left_tells (a b : Int) (a0 : 0 ≤ a) (a1 : a ≤ 255) (b0 : 0 ≤ b) (b1 : b ≤ 255) : timer_Left.f a b = some (mx a b) := by
  unfold timer_Left.f
  congr 1
  unfold mx wrap64
  split <;> omega

theorem awake_tells : cosmaclaw10_awake.f = some true := by decide +kernel

theorem TimerSums : cosmaclaw10_TimerSums.Pure := by
  intro a b n m wa wb wn wm
  obtain ⟨a0, a1⟩ := bounds_u8 wa
  obtain ⟨b0, b1⟩ := bounds_u8 wb
  obtain ⟨n0, n1⟩ := bounds_u8 wn
  obtain ⟨m0, m1⟩ := bounds_u8 wm
  have hn : wrap64 n = n := by unfold wrap64; omega
  have hm : wrap64 m = m := by unfold wrap64; omega
  have hs : wrap64 (n + m) = n + m := by unfold wrap64; omega
  have da := dn_bounds a n a0 a1
  have db := dn_bounds b n b0 b1
  have x0 : 0 ≤ mx a b ∧ mx a b ≤ 255 ∧ a ≤ mx a b ∧ b ≤ mx a b := by unfold mx; split <;> omega
  have hd : ∀ v : Int, 0 ≤ v → dn (dn v n) m = dn v (n + m) := by
    intro v hv
    unfold dn
    rw [if_neg (show ¬ m < 0 by omega), if_neg (show ¬ n < 0 by omega), if_neg (show ¬ n + m < 0 by omega)]
    repeat' split
    all_goals omega
  have hz : ∀ v : Int, 0 ≤ v → v ≤ mx a b → dn v (mx a b) = 0 := by
    intro v hv h
    unfold dn
    rw [if_neg (show ¬ mx a b < 0 by omega), if_pos h]
  unfold cosmaclaw10_TimerSums.f
  rw [awake_tells, hn, hm, hs]
  simp only [Option.bind_some, if_true]
  rw [after_tells a b n a0 a1 b0 b1 (by omega)]
  simp only [Option.bind_some]
  rw [after_tells _ _ m da.1 da.2 db.1 db.2 (by omega), after_tells a b (n + m) a0 a1 b0 b1 (by omega), hd a a0, hd b b0]
  simp only [Option.bind_some, beq_self_eq_true, Bool.and_self, if_true]
  rw [left_tells a b a0 a1 b0 b1]
  simp only [Option.bind_some]
  rw [after_tells a b _ a0 a1 b0 b1 (by omega), hz a a0 x0.2.2.1, hz b b0 x0.2.2.2]
  rfl

end Go.Proofs.Ytjpkpojgcckhkaa.Pure
