/- audio.Sample: what it returns, for every state and number; it changes nothing that lay in memory. -/
import Derived.Test.YtgpjnaabbfalkaaBase
import Derived.Laws.BitsAllLaws
namespace Go.Proofs.Ytgpjnaabbfalkaa
open Go.RowKit Go.Proofs.YtgpjnaabbfalkaaW.PrintWords Go.Proofs.YtgpjnaabbfalkaaW.PrintLast Go.Proofs.YtgpjnaabbfalkaaW.PrintMore

theorem ofInt_toNat (a : Int) : (BitVec.ofInt 64 a).toNat = (a % 18446744073709551616).toNat := by
  rw [BitVec.toNat_ofInt]
  rfl
/-- x & 127 is the remainder, of a negative x too. -/
theorem and_127 (a : Int) : Go.bits .and .i64 a 127 = a % 128 := by
  show IntKind.i64.wrap ((BitVec.ofInt 64 a &&& BitVec.ofInt 64 127).toNat : Int) = _
  rw [BitVec.toNat_and, ofInt_toNat]
  have h1 : (BitVec.ofInt 64 127).toNat = 2 ^ 7 - 1 := rfl
  rw [h1, Nat.and_two_pow_sub_one_eq_mod, IntWalk.i64_in _ (by omega)]
  omega

theorem bit0 (y : Int) : Go.bits .and .u8 y 1 = y % 2 := by
  show IntKind.u8.wrap ((BitVec.ofInt 8 y &&& BitVec.ofInt 8 1).toNat : Int) = _
  have h0 : (BitVec.ofInt 8 y).toNat = (y % 256).toNat := by rw [BitVec.toNat_ofInt]; rfl
  have h1 : (BitVec.ofInt 8 1).toNat = 2 ^ 1 - 1 := rfl
  rw [BitVec.toNat_and, h0, h1, Nat.and_two_pow_sub_one_eq_mod, IntKind.wrap_u8']
  omega

/-- SAMPLE i OF A PATTERN. -/
def smp (p : List Int) (i : Int) : Bool := (p.getD (i % 128 / 8).toNat 0) / 2 ^ (7 - i % 128 % 8).toNat % 2 == 1

set_option maxHeartbeats 1000000 in
theorem sample_in (F : Fence) (n : Nat) (h15 : F.fn 15) (hro : F.round = none) (p : List Int) (hp : p.length = 16) (q i : Int) (w : World) :
    CallsIn F n Try.prog 15 #[.agg (auC p q), .int .i64 i] w fun e w' => e = .returned (.bool (smp p i)) ∧ w' = w.alloc (.cells (auC p q) 26) := by
  have hx : 0 ≤ i % 128 ∧ i % 128 ≤ 127 := by omega
  have HA := and_127 i
  obtain ⟨x, hx'⟩ : ∃ x, i % 128 = x := ⟨_, rfl⟩
  have HX := Lib.hid hx'
  rw [hx'] at hx HA
  clear hx'
  obtain ⟨x0, x1⟩ := hx
  have hg := auC_get hp q (x / 8).toNat (by omega)
  obtain ⟨cs, hcs⟩ : ∃ cs, auC p q = cs := ⟨_, rfl⟩
  rw [hcs] at hg ⊢
  obtain ⟨v, hv⟩ : ∃ v, p.getD (x / 8).toNat 0 = v := ⟨_, rfl⟩
  rw [hv] at hg
  have HS : Hid (smp p i = (v / 2 ^ (7 - x % 8).toNat % 2 == 1)) := by show smp p i = _; rw [← hv, ← HX.out]; rfl
  clear hv hcs HX
  have b0 : 0 ≤ x / 8 := by omega
  have b1 : x / 8 < 16 := by omega
  have c0 : 0 ≤ x % 8 := by omega
  have c1 : x % 8 ≤ 7 := by omega
  refine callsIn_of_wp Try.func15 rfl h15 ?_ hro
  simp only [Try.ntmps15, List.size_toArray, List.length_cons, List.length_nil, Nat.reduceAdd, Nat.reduceSub, Array.replicate_succ, Array.replicate_zero, List.push_toArray, List.append_toArray, List.nil_append, List.cons_append]
  gi_wp2
  go_ret
  exact ⟨by rw [HS.out, bit0]; rfl, rfl⟩

theorem sample_calls (p : List Int) (hp : p.length = 16) (q i : Int) (w : World) :
    Calls Try.prog 15 #[.agg (auC p q), .int .i64 i] w fun e w' => e = .returned (.bool (smp p i)) ∧ Below w.heap.size w w' :=
  (callsIn_wide.1 (sample_in Fence.wide 3 trivial rfl p hp q i w)).mono fun _ _ ⟨he, hw⟩ => ⟨he, hw ▸ (Below.refl _ _).alloc (Nat.le_refl _) _⟩
end Go.Proofs.Ytgpjnaabbfalkaa
