/- Two spans overlap exactly if an address of one of them is in the other one; for every a, n, b, m: int (within the law's own guards). -/
import Derived.Test.YtpccokimjmmmoaaQAddrOverlap2
import Derived.OpenShut
import Derived.IntWalk
namespace Go.Proofs.Ytpccokimjmmmoaa.Pure
open Go.RowKit Go.Proofs.Ytpccokimjmmmoaa.PAddrOverlap Go.Proofs.YtpccokimjmmmoaaW.PrintWords Go.Proofs.YtpccokimjmmmoaaW.PrintLast

theorem wrap_mod (x : Int) : wrap64 x % 65536 = x % 65536 := by
  unfold wrap64
  omega

theorem wrap_tells (a : Int) : addr_Wrap.f a = some (a % 65536) := by
  unfold addr_Wrap.f
  rw [and_65535]

/-- Is b in the span of n bytes from a on? -/
def inb (a n b : Int) : Bool := decide ((b - a) % 65536 < n)

theorem in_tells (a n b : Int) : addr_In.f a n b = some (inb a n b) := by
  unfold addr_In.f inb
  rw [wrap_tells, wrap_mod]
  rfl

def lapB (a n b m : Int) : Bool := decide (0 < n) && decide (0 < m) && (inb a n b || inb b m a)

theorem overlap_tells (a n b m : Int) : addr_Overlap.f a n b m = some (lapB a n b m) := by
  unfold addr_Overlap.f lapB
  by_cases hn : n > 0
  · rw [if_pos hn, decide_eq_true (show 0 < n from hn)]
    by_cases hm : m > 0
    · rw [if_pos hm, decide_eq_true (show 0 < m from hm), in_tells, in_tells]
      simp only [Option.bind_some, Bool.true_and]
      cases inb a n b <;> rfl
    · rw [if_neg hm, decide_eq_false (show ¬ 0 < m from hm)]
      rfl
  · rw [if_neg hn, decide_eq_false (show ¬ 0 < n from hn)]
    rfl

def rightB (a n : Int) : Bool := decide (0 ≤ a ∧ a ≤ 65535 ∧ 0 ≤ n ∧ n ≤ 65536)

theorem right_tells (a n : Int) : cosmacref03_Right.f a n = some (rightB a n) := by
  unfold cosmacref03_Right.f rightB
  by_cases h1 : a ≥ 0
  · rw [if_pos h1]
    by_cases h2 : a ≤ 65535
    · rw [if_pos h2]
      by_cases h3 : n ≥ 0
      · rw [if_pos h3]
        congr 1
        by_cases h4 : n ≤ 65536
        · rw [decide_eq_true h4, decide_eq_true ⟨h1, h2, h3, h4⟩]
        · rw [decide_eq_false h4, decide_eq_false (by omega)]
      · rw [if_neg h3, decide_eq_false (by omega)]
    · rw [if_neg h2, decide_eq_false (by omega)]
  · rw [if_neg h1, decide_eq_false (by omega)]

theorem right_yes {a n : Int} (h : rightB a n = true) : 0 ≤ a ∧ a ≤ 65535 ∧ 0 ≤ n ∧ n ≤ 65536 := of_decide_eq_true h

theorem numbers_loop (xs : List Int) (hl : xs.length ≤ 1000000) (d : Nat) : ∀ (k i : Nat), i + d = xs.length → d < k → cosmacref03_Numbers.l0 k xs xs (i : Int) = some true := by
  induction d with
  | zero =>
    intro k i hi hk
    obtain ⟨k, rfl⟩ : ∃ m, k = m + 1 := ⟨k - 1, by omega⟩
    simp only [cosmacref03_Numbers.l0]
    rw [if_neg (by omega)]
  | succ d ih =>
    intro k i hi hk
    obtain ⟨k, rfl⟩ : ∃ m, k = m + 1 := ⟨k - 1, by omega⟩
    have hw : wrap64 ((i : Int) + 1) = ((i + 1 : Nat) : Int) := by unfold wrap64; omega
    have q1 : (i : Int) < (xs.length : Int) := by omega
    have q2 : 0 ≤ (i : Int) := by omega
    simp only [cosmacref03_Numbers.l0]
    rw [if_pos q1, if_pos q2, if_pos q1, hw]
    simp only [if_true]
    exact ih k (i + 1) (by omega) (by omega)

theorem numbers_same (xs : List Int) (hl : xs.length ≤ 1000000) (k : Nat) (hk : xs.length < k) : cosmacref03_Numbers.f k xs xs = some true := by
  unfold cosmacref03_Numbers.f
  rw [if_pos rfl]
  exact numbers_loop xs hl xs.length k 0 (by omega) hk

theorem list_tells (k : Nat) (a : Int) (n : Nat) (h0 : 0 ≤ a) (h1 : a ≤ 65535) (hn : n ≤ 65536) : addr_List.f k a (n : Int) = some (upto a n) := by
  unfold addr_List.f
  rw [if_pos (by omega), Int.toNat_natCast]

theorem rd_upto (a : Int) (n i : Nat) (h : i < n) : rd (upto a n) (i : Int) = (a + (i : Int)) % 65536 := by
  unfold rd upto
  simp [List.getD_eq_getElem?_getD, h]

theorem awake_tells (k : Nat) (hk : 10 ≤ k) : cosmaclaw03_awake.f k = some true := by
  have h1 : addr_List.f k 65534 3 = some [65534, 65535, 0] := (list_tells k 65534 3 (by omega) (by omega) (by omega)).trans (by decide)
  have h2 := numbers_same [65534, 65535, 0] (by decide) k (by simp only [List.length_cons, List.length_nil]; omega)
  unfold cosmaclaw03_awake.f
  rw [h1]
  simp only [Option.bind_some]
  rw [h2, wrap_tells, in_tells, overlap_tells, overlap_tells]
  decide +kernel

theorem mod_tells (n : Int) : cosmacref01_Mod.f n = some (n % 65536) := by
  unfold cosmacref01_Mod.f
  have hp : 0 ≤ n → Int.tmod n 65536 = n % 65536 := fun h => Int.tmod_eq_emod_of_nonneg h
  have hn : n < 0 → Int.tmod n 65536 = - ((-n) % 65536) := fun h => by
    have e : Int.tmod n 65536 = - Int.tmod (-n) 65536 := by rw [Int.neg_tmod]; omega
    rw [e, Int.tmod_eq_emod_of_nonneg (by omega)]
  by_cases h : 0 ≤ n
  · rw [hp h, if_neg (by omega)]
  · rw [hn (by omega)]
    by_cases h2 : -(-n % 65536) < 0
    · rw [if_pos h2]
      congr 1
      unfold wrap64
      omega
    · rw [if_neg h2]
      congr 1
      omega

theorem reflist_loop (a : Int) (n : Nat) (hn : n ≤ 65536) (d : Nat) : ∀ (k i : Nat), i + d = n → d < k → cosmacref03_List.l0 k a (n : Int) (upto a i) (i : Int) = some (upto a n) := by
  induction d with
  | zero =>
    intro k i hi hk
    obtain ⟨k, rfl⟩ : ∃ m, k = m + 1 := ⟨k - 1, by omega⟩
    obtain rfl : i = n := by omega
    simp only [cosmacref03_List.l0]
    rw [if_neg (by omega)]
  | succ d ih =>
    intro k i hi hk
    obtain ⟨k, rfl⟩ : ∃ m, k = m + 1 := ⟨k - 1, by omega⟩
    have hw : wrap64 ((i : Int) + 1) = ((i + 1 : Nat) : Int) := by unfold wrap64; omega
    have q1 : (i : Int) < (n : Int) := by omega
    have q2 : (upto a i).length < 17592186044416 := by rw [upto_length]; omega
    simp only [cosmacref03_List.l0]
    rw [if_pos q1, mod_tells, wrap_mod]
    simp only [Option.bind_some]
    rw [if_pos q2, hw, ← upto_succ]
    exact ih k (i + 1) (by omega) (by omega)

theorem reflist_tells (k : Nat) (a : Int) (n : Nat) (hn : n ≤ 65536) (hk : n < k) : cosmacref03_List.f k a (n : Int) = some (upto a n) := by
  unfold cosmacref03_List.f
  exact reflist_loop a n hn n k 0 (by omega) hk

theorem refin_loop (a b : Int) (n : Nat) (hb0 : 0 ≤ b) (hb1 : b ≤ 65535) (hn : n ≤ 65536) (d : Nat) : ∀ (k i : Nat), i + d = n → d < k →
    cosmacref03_In.l0 k b (upto a n) (i : Int) = some (decide ((i : Int) ≤ (b - a) % 65536 ∧ (b - a) % 65536 < (n : Int))) := by
  induction d with
  | zero =>
    intro k i hi hk
    obtain ⟨k, rfl⟩ : ∃ m, k = m + 1 := ⟨k - 1, by omega⟩
    simp only [cosmacref03_In.l0]
    rw [upto_length, if_neg (by omega), decide_eq_false (by omega)]
  | succ d ih =>
    intro k i hi hk
    obtain ⟨k, rfl⟩ : ∃ m, k = m + 1 := ⟨k - 1, by omega⟩
    have hw : wrap64 ((i : Int) + 1) = ((i + 1 : Nat) : Int) := by unfold wrap64; omega
    have q1 : (i : Int) < (n : Int) := by omega
    have q2 : 0 ≤ (i : Int) := by omega
    simp only [cosmacref03_In.l0]
    rw [upto_length, if_pos q1, if_pos q2, rd_upto a n i (by omega), hw]
    by_cases h : (a + (i : Int)) % 65536 = b
    · rw [if_pos h, decide_eq_true (by omega)]
    · rw [if_neg h, ih k (i + 1) (by omega) (by omega)]
      congr 1
      by_cases h2 : (i : Int) ≤ (b - a) % 65536 ∧ (b - a) % 65536 < (n : Int)
      · rw [decide_eq_true h2, decide_eq_true (by omega)]
      · rw [decide_eq_false h2, decide_eq_false (by omega)]

theorem refin_tells (k : Nat) (a b : Int) (n : Nat) (hb0 : 0 ≤ b) (hb1 : b ≤ 65535) (hn : n ≤ 65536) (hk : n < k) : cosmacref03_In.f k a (n : Int) b = some (inb a (n : Int) b) := by
  unfold cosmacref03_In.f
  rw [reflist_tells k a n hn hk]
  simp only [Option.bind_some]
  have h := refin_loop a b n hb0 hb1 hn n k 0 (by omega) hk
  rw [show ((0 : Nat) : Int) = 0 from rfl] at h
  rw [h]
  unfold inb
  congr 1
  by_cases h2 : (b - a) % 65536 < (n : Int)
  · rw [decide_eq_true h2, decide_eq_true (by omega)]
  · rw [decide_eq_false h2, decide_eq_false (by omega)]

/-- Is one of the first i addresses of the span (b, ..) in the span (a, n)? -/
def hits (a n b : Int) (i : Nat) : Bool := (List.range i).any fun j => inb a n ((b + (j : Int)) % 65536)
theorem hits_succ (a n b : Int) (i : Nat) : hits a n b (i + 1) = (hits a n b i || inb a n ((b + (i : Int)) % 65536)) := by
  unfold hits
  rw [List.range_succ, List.any_append]
  simp

theorem hits_lap (a b : Int) (n m : Nat) (hm : m ≤ 200) : lapB a (n : Int) b (m : Int) = hits a (n : Int) b m := by
  rw [Bool.eq_iff_iff]
  unfold lapB hits inb
  simp only [Bool.and_eq_true, Bool.or_eq_true, decide_eq_true_eq, List.any_eq_true, List.mem_range]
  constructor
  · rintro ⟨⟨hn, hm0⟩, h | h⟩
    · exact ⟨0, by omega, by omega⟩
    · exact ⟨((a - b) % 65536).toNat, by omega, by omega⟩
  · rintro ⟨j, hj, h⟩
    refine ⟨⟨by omega, by omega⟩, ?_⟩
    by_cases hx : (b - a) % 65536 < (n : Int)
    · exact .inl hx
    · exact .inr (by omega)

theorem overlap_loop (a b : Int) (n m : Nat) (hn : n ≤ 65536) (hm : m ≤ 200) (d : Nat) : ∀ (k i : Nat), i + d = m → d + 65540 < k →
    cosmaclaw03_AddrOverlap.l0 k a (n : Int) b (m : Int) (hits a (n : Int) b i) (upto b m) (i : Int) = some true := by
  induction d with
  | zero =>
    intro k i hi hk
    obtain ⟨k, rfl⟩ : ∃ m, k = m + 1 := ⟨k - 1, by omega⟩
    obtain rfl : i = m := by omega
    have e1 := hits_lap a b n i hm
    have e2 : lapB b (i : Int) a (n : Int) = lapB a (n : Int) b (i : Int) := by
      unfold lapB
      rw [Bool.and_comm (decide (0 < (i : Int))), Bool.or_comm]
    simp only [cosmaclaw03_AddrOverlap.l0]
    rw [upto_length, if_neg (by omega), overlap_tells, overlap_tells, e2, e1]
    simp only [Option.bind_some, beq_self_eq_true, if_true]
  | succ d ih =>
    intro k i hi hk
    obtain ⟨k, rfl⟩ : ∃ m, k = m + 1 := ⟨k - 1, by omega⟩
    have hw : wrap64 ((i : Int) + 1) = ((i + 1 : Nat) : Int) := by unfold wrap64; omega
    have q1 : (i : Int) < (m : Int) := by omega
    have q2 : 0 ≤ (i : Int) := by omega
    have hrec := ih k (i + 1) (by omega) (by omega)
    rw [hits_succ] at hrec
    simp only [cosmaclaw03_AddrOverlap.l0]
    rw [upto_length, if_pos q1, hw]
    by_cases h : hits a (n : Int) b i = true
    · rw [if_pos h]
      rw [h, Bool.true_or] at hrec
      exact hrec
    · rw [if_neg h, if_pos q2, rd_upto b m i (by omega), refin_tells k a _ n (by omega) (by omega) hn (by omega)]
      simp only [Option.bind_some]
      rw [Bool.eq_false_iff.2 h, Bool.false_or] at hrec
      exact hrec

theorem overlap_true (k : Nat) (hk : 10 ≤ k) (a n b m : Int) : cosmaclaw03_AddrOverlap.j0 (k + 1) a n b m true = some true := by
  simp only [cosmaclaw03_AddrOverlap.j0]
  rw [if_pos trivial, awake_tells k hk]
  rfl

theorem overlap_all (K : Nat) (hK : 65798 ≤ K) (a n b m : Int) : cosmaclaw03_AddrOverlap.f (K + 2) a n b m = some true := by
  have ht := overlap_true (K + 1) (by omega) a n b m
  unfold cosmaclaw03_AddrOverlap.f
  rw [awake_tells (K + 2) (by omega)]
  simp only [Option.bind_some, if_true]
  rw [right_tells, right_tells]
  simp only [Option.bind_some]
  by_cases h1 : rightB a n = true
  · rw [if_pos h1]
    by_cases h2 : rightB b m = true
    · rw [if_pos h2]
      by_cases h3 : m > 200
      · rw [decide_eq_true h3, ht]
      · rw [decide_eq_false h3]
        obtain ⟨a0, a1, n0, n1⟩ := right_yes h1
        obtain ⟨b0, b1, m0, m1⟩ := right_yes h2
        obtain ⟨n, rfl⟩ := Int.eq_ofNat_of_zero_le n0
        obtain ⟨m, rfl⟩ := Int.eq_ofNat_of_zero_le m0
        have hl := overlap_loop a b n m (by omega) (by omega) m (K + 1) 0 (by omega) (by omega)
        simp only [cosmaclaw03_AddrOverlap.j0]
        rw [if_neg (by simp), reflist_tells (K + 1) b m (by omega) (by omega)]
        simp only [Option.bind_some]
        exact hl
    · rw [if_neg h2, ht]
  · rw [if_neg h1, ht]

theorem AddrOverlap : cosmaclaw03_AddrOverlap.Pure := fun a n b m _ _ _ _ => ⟨65798 + 2, overlap_all 65798 (Nat.le_refl _) a n b m⟩

end Go.Proofs.Ytpccokimjmmmoaa.Pure
