/- Plain laws on the reference implementation's functions: Samples gives the first 128 samples; Same is true of equal lists. -/
import Derived.Test.YtgpjnaabbfalkaaPat
namespace Go.Proofs.Ytgpjnaabbfalkaa
open Go.RowKit Go.Proofs.YtgpjnaabbfalkaaW.PrintWords Go.Proofs.YtgpjnaabbfalkaaW.PrintLast Go.Proofs.YtgpjnaabbfalkaaW.PrintMore Go.Proofs.Ytgpjnaabbfalkaa.PAudioMatchesReference

theorem same_loop (xs : List Int) (hx : xs.length ≤ 9223372036854775807) (d : Nat) : ∀ (k i : Nat), xs.length - i = d → i ≤ xs.length → d < k → cosmacref04_Same.l0 k xs xs (i : Int) = some true := by
  induction d with
  | zero =>
    intro k i h1 h2 hk
    obtain ⟨k, rfl⟩ : ∃ m, k = m + 1 := ⟨k - 1, by omega⟩
    simp only [cosmacref04_Same.l0]
    rw [if_neg (by omega)]
  | succ d ih =>
    intro k i h1 h2 hk
    obtain ⟨k, rfl⟩ : ∃ m, k = m + 1 := ⟨k - 1, by omega⟩
    have q1 : (i : Int) < (xs.length : Int) := by omega
    have q2 : 0 ≤ (i : Int) := by omega
    have hw : wrap64 ((i : Int) + 1) = ((i + 1 : Nat) : Int) := by unfold wrap64; omega
    simp only [cosmacref04_Same.l0]
    rw [if_pos q1, if_pos q2]
    simp only [q1, if_true, hw]
    exact ih k (i + 1) (by omega) (by omega) (by omega)
theorem same_tells (xs : List Int) (hx : xs.length ≤ 9223372036854775807) : cosmacref04_Same.f (xs.length + 1) xs xs = some true := by
  unfold cosmacref04_Same.f
  rw [if_pos rfl]
  exact same_loop xs hx xs.length (xs.length + 1) 0 (by omega) (by omega) (by omega)

def pw (r : Nat) : Int := (128 : Int) / 2 ^ r
theorem pw_facts : ∀ r : Fin 8, pw r.val ≠ 0 ∧ wrap64 (Int.tdiv (pw r.val) 2) = pw (r.val + 1) ∧ pw r.val = 2 ^ (7 - r.val) := by decide +kernel
theorem v_bit (v : Int) (h : 0 ≤ v ∧ v ≤ 255) (r : Nat) (hr : r < 8) : (Int.tmod (wrap64 (Int.tdiv v (pw r))) 2 == 1) = (v / 2 ^ (7 - r) % 2 == 1) := by
  have hp := (pw_facts ⟨r, hr⟩).2.2
  have hp : pw r = 2 ^ (7 - r) := hp
  have h2 : (1 : Int) ≤ 2 ^ (7 - r) := Int.pow_pos (by decide)
  rw [hp]
  obtain ⟨z, hz⟩ : ∃ z : Int, 2 ^ (7 - r) = z := ⟨_, rfl⟩
  rw [hz] at h2 ⊢
  have b0 : 0 ≤ v / z := Int.ediv_nonneg h.1 (by omega)
  have b1 : v / z ≤ v := Int.ediv_le_self z h.1
  rw [Int.tdiv_eq_ediv_of_nonneg h.1]
  have hw : wrap64 (v / z) = v / z := by unfold wrap64; omega
  rw [hw, Int.tmod_eq_emod_of_nonneg b0]

theorem samples_in (F : List Int) (hF : F.length = 16) (hb : ∀ x ∈ F, 0 ≤ x ∧ x ≤ 255) (i : Nat) (hi : i < 16) (d : Nat) : ∀ (k r : Nat), 8 - r = d → r ≤ 8 → cosmacref11_Samples.l1 (k + d + 1) F (upto F (8 * i + r)) (i : Int) (F.getD i 0) (pw r) (r : Int) = cosmacref11_Samples.l0 k F (upto F (8 * i + 8)) ((i + 1 : Nat) : Int) := by
  induction d with
  | zero =>
    intro k r h1 h2
    obtain rfl : r = 8 := by omega
    have hw : wrap64 ((i : Int) + 1) = ((i + 1 : Nat) : Int) := by unfold wrap64; omega
    simp only [cosmacref11_Samples.l1]
    rw [if_neg (by omega), hw]
  | succ d ih =>
    intro k r h1 h2
    have hr : r < 8 := by omega
    have q1 : (r : Int) < 8 := by omega
    have q2 : (upto F (8 * i + r)).length < 140737488355328 := by rw [upto_length]; omega
    have q3 : k + (d + 1) + 1 = (k + d + 1) + 1 := by omega
    have q4 : 8 - (r + 1) = d := by omega
    have hw : wrap64 ((r : Int) + 1) = ((r + 1 : Nat) : Int) := by unfold wrap64; omega
    obtain ⟨f1, f2, _⟩ := pw_facts ⟨r, hr⟩
    have f1 : pw r ≠ 0 := f1
    have f2 : wrap64 (Int.tdiv (pw r) 2) = pw (r + 1) := f2
    have hv := v_bit (F.getD i 0) (get_bytes F hF hb i hi) r hr
    rw [← smp_at F i r hi hr] at hv
    rw [q3]
    simp only [cosmacref11_Samples.l1]
    rw [if_pos q1, if_neg f1, if_pos q2, hv, f2, hw, ← upto_succ]
    exact ih k (r + 1) q4 hr
theorem samples_out (F : List Int) (hF : F.length = 16) (hb : ∀ x ∈ F, 0 ≤ x ∧ x ≤ 255) (m : Nat) : ∀ i : Nat, 16 - i = m → i ≤ 16 → cosmacref11_Samples.l0 (10 * m + 1) F (upto F (8 * i)) (i : Int) = some (upto F 128) := by
  induction m with
  | zero =>
    intro i h1 h2
    obtain rfl : i = 16 := by omega
    simp only [cosmacref11_Samples.l0]
    rw [if_neg (by omega)]
  | succ m ih =>
    intro i h1 h2
    have hi : i < 16 := by omega
    have hb2 := get_bytes F hF hb i hi
    have hrd : rd F (i : Int) = F.getD i 0 := rfl
    have hw : wrap64 (rd F (i : Int)) = F.getD i 0 := by rw [hrd]; unfold wrap64; omega
    rw [show 10 * (m + 1) + 1 = (10 * m + 10) + 1 by omega]
    simp only [cosmacref11_Samples.l0]
    rw [if_pos (by omega), if_pos (by omega), if_pos (by omega), hw]
    have h := samples_in F hF hb i hi 8 (10 * m + 1) 0 (by omega) (by omega)
    rw [show 10 * m + 1 + 8 + 1 = 10 * m + 10 by omega] at h
    have e0 : pw 0 = 128 := by decide +kernel
    rw [e0] at h
    have e1 : 8 * (i + 1) = 8 * i + 8 := by omega
    have h2 := ih (i + 1) (by omega) (by omega)
    rw [e1] at h2
    exact h.trans h2
theorem samples_tells (F : List Int) (hF : F.length = 16) (hb : ∀ x ∈ F, 0 ≤ x ∧ x ≤ 255) : cosmacref11_Samples.f 161 F = some (upto F 128) := samples_out F hF hb 16 0 (by omega) (by omega)

theorem upto_at (F : List Int) (k : Nat) (i : Int) (h0 : 0 ≤ i) (h1 : i < (k : Int)) : rdOf false (upto F k) i = smp F i := by
  unfold rdOf upto
  have hi : i.toNat < k := by omega
  rw [List.getD_eq_getElem?_getD, List.getElem?_map, List.getElem?_range hi]
  have e : ((i.toNat : Nat) : Int) = i := by omega
  simp [e]
/-- The remainder that the law reckons, and the sample there. -/
theorem smp_mod (F : List Int) (i : Int) : smp F (i % 128) = smp F i := by
  unfold smp
  rw [show i % 128 % 128 = i % 128 by omega]
theorem all_succ (F : List Int) (k : Nat) : (upto F (k + 1)).all (· == smp F 0) = ((upto F k).all (· == smp F 0) && smp F (k : Int) == smp F 0) := by
  rw [upto_succ, List.all_append]
  simp
end Go.Proofs.Ytgpjnaabbfalkaa
