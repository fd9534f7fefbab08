/- A span has as many addresses as bytes, each directly behind the one before, up to wrapping; all of them are in it, and the one behind it is not, unless it is the whole memory; for every a, n: int (within the law's own guards). -/
import Derived.Test.YtpccokimjmmmoaaQAddrLists2
import Derived.OpenShut
import Derived.IntWalk
namespace Go.Proofs.Ytpccokimjmmmoaa.Pure
open Go.RowKit Go.Proofs.Ytpccokimjmmmoaa.PAddrLists Go.Proofs.YtpccokimjmmmoaaW.PrintWords Go.Proofs.YtpccokimjmmmoaaW.PrintLast

theorem wrap_mod (x : Int) : wrap64 x % 65536 = x % 65536 := by
  unfold wrap64
  omega

theorem wrap_tells (a : Int) : addr_Wrap.f a = some (a % 65536) := by
  unfold addr_Wrap.f
  rw [and_65535]

/-- Is b in the span of n bytes from a on? -/
def inb (a n b : Int) : Bool := decide ((b - a) % 65536 < n)

theorem in_tells (a n b : Int) : addr_In.f a n b = some (inb a n b) := by
  unfold addr_In.f inb
  rw [wrap_tells, wrap_mod]
  rfl

def lapB (a n b m : Int) : Bool := decide (0 < n) && decide (0 < m) && (inb a n b || inb b m a)

theorem overlap_tells (a n b m : Int) : addr_Overlap.f a n b m = some (lapB a n b m) := by
  unfold addr_Overlap.f lapB
  by_cases hn : n > 0
  · rw [if_pos hn, decide_eq_true (show 0 < n from hn)]
    by_cases hm : m > 0
    · rw [if_pos hm, decide_eq_true (show 0 < m from hm), in_tells, in_tells]
      simp only [Option.bind_some, Bool.true_and]
      cases inb a n b <;> rfl
    · rw [if_neg hm, decide_eq_false (show ¬ 0 < m from hm)]
      rfl
  · rw [if_neg hn, decide_eq_false (show ¬ 0 < n from hn)]
    rfl

def rightB (a n : Int) : Bool := decide (0 ≤ a ∧ a ≤ 65535 ∧ 0 ≤ n ∧ n ≤ 65536)

theorem right_tells (a n : Int) : cosmacref03_Right.f a n = some (rightB a n) := by
  unfold cosmacref03_Right.f rightB
  by_cases h1 : a ≥ 0
  · rw [if_pos h1]
    by_cases h2 : a ≤ 65535
    · rw [if_pos h2]
      by_cases h3 : n ≥ 0
      · rw [if_pos h3]
        congr 1
        by_cases h4 : n ≤ 65536
        · rw [decide_eq_true h4, decide_eq_true ⟨h1, h2, h3, h4⟩]
        · rw [decide_eq_false h4, decide_eq_false (by omega)]
      · rw [if_neg h3, decide_eq_false (by omega)]
    · rw [if_neg h2, decide_eq_false (by omega)]
  · rw [if_neg h1, decide_eq_false (by omega)]

theorem right_yes {a n : Int} (h : rightB a n = true) : 0 ≤ a ∧ a ≤ 65535 ∧ 0 ≤ n ∧ n ≤ 65536 := of_decide_eq_true h

theorem numbers_loop (xs : List Int) (hl : xs.length ≤ 1000000) (d : Nat) : ∀ (k i : Nat), i + d = xs.length → d < k → cosmacref03_Numbers.l0 k xs xs (i : Int) = some true := by
  induction d with
  | zero =>
    intro k i hi hk
    obtain ⟨k, rfl⟩ : ∃ m, k = m + 1 := ⟨k - 1, by omega⟩
    simp only [cosmacref03_Numbers.l0]
    rw [if_neg (by omega)]
  | succ d ih =>
    intro k i hi hk
    obtain ⟨k, rfl⟩ : ∃ m, k = m + 1 := ⟨k - 1, by omega⟩
    have hw : wrap64 ((i : Int) + 1) = ((i + 1 : Nat) : Int) := by unfold wrap64; omega
    have q1 : (i : Int) < (xs.length : Int) := by omega
    have q2 : 0 ≤ (i : Int) := by omega
    simp only [cosmacref03_Numbers.l0]
    rw [if_pos q1, if_pos q2, if_pos q1, hw]
    simp only [if_true]
    exact ih k (i + 1) (by omega) (by omega)

theorem numbers_same (xs : List Int) (hl : xs.length ≤ 1000000) (k : Nat) (hk : xs.length < k) : cosmacref03_Numbers.f k xs xs = some true := by
  unfold cosmacref03_Numbers.f
  rw [if_pos rfl]
  exact numbers_loop xs hl xs.length k 0 (by omega) hk

theorem list_tells (k : Nat) (a : Int) (n : Nat) (h0 : 0 ≤ a) (h1 : a ≤ 65535) (hn : n ≤ 65536) : addr_List.f k a (n : Int) = some (upto a n) := by
  unfold addr_List.f
  rw [if_pos (by omega), Int.toNat_natCast]

theorem rd_upto (a : Int) (n i : Nat) (h : i < n) : rd (upto a n) (i : Int) = (a + (i : Int)) % 65536 := by
  unfold rd upto
  simp [List.getD_eq_getElem?_getD, h]

theorem awake_tells (k : Nat) (hk : 10 ≤ k) : cosmaclaw03_awake.f k = some true := by
  have h1 : addr_List.f k 65534 3 = some [65534, 65535, 0] := (list_tells k 65534 3 (by omega) (by omega) (by omega)).trans (by decide)
  have h2 := numbers_same [65534, 65535, 0] (by decide) k (by simp only [List.length_cons, List.length_nil]; omega)
  unfold cosmaclaw03_awake.f
  rw [h1]
  simp only [Option.bind_some]
  rw [h2, wrap_tells, in_tells, overlap_tells, overlap_tells]
  decide +kernel

theorem lists_true (k : Nat) (hk : 10 ≤ k) (a n : Int) : cosmaclaw03_AddrLists.j0 (k + 1) a n true = some true := by
  simp only [cosmaclaw03_AddrLists.j0]
  rw [if_pos trivial, awake_tells k hk]
  rfl

theorem lists_loop (a : Int) (n : Nat) (hn : n ≤ 3000) (d : Nat) : ∀ (k i : Nat), i + d = n → d < k → cosmaclaw03_AddrLists.l0 k a (n : Int) (upto a n) (i : Int) = some true := by
  induction d with
  | zero =>
    intro k i hi hk
    obtain ⟨k, rfl⟩ : ∃ m, k = m + 1 := ⟨k - 1, by omega⟩
    have e1 : inb a (n : Int) ((a + (n : Int)) % 65536) = false := decide_eq_false (by omega)
    have e2 : inb a 65536 ((a + (n : Int)) % 65536) = true := decide_eq_true (by omega)
    simp only [cosmaclaw03_AddrLists.l0]
    rw [if_neg (by omega), wrap_tells, wrap_mod]
    simp only [Option.bind_some]
    rw [in_tells, in_tells, e1, e2]
    rfl
  | succ d ih =>
    intro k i hi hk
    obtain ⟨k, rfl⟩ : ∃ m, k = m + 1 := ⟨k - 1, by omega⟩
    have hw : wrap64 ((i : Int) + 1) = ((i + 1 : Nat) : Int) := by unfold wrap64; omega
    have q1 : (i : Int) < (n : Int) := by omega
    have q2 : 0 ≤ (i : Int) := by omega
    have e1 : inb a (n : Int) ((a + (i : Int)) % 65536) = true := decide_eq_true (by omega)
    simp only [cosmaclaw03_AddrLists.l0]
    rw [upto_length, if_pos q1, if_pos q2, if_pos q1, rd_upto a n i (by omega), in_tells, e1, hw]
    simp only [Option.bind_some, if_true]
    have hrec := ih k (i + 1) (by omega) (by omega)
    by_cases h : (i : Int) > 0
    · obtain ⟨j, rfl⟩ : ∃ j, i = j + 1 := ⟨i - 1, by omega⟩
      have hv : wrap64 (((j + 1 : Nat) : Int) - 1) = (j : Int) := by unfold wrap64; omega
      have q3 : 0 ≤ (j : Int) := by omega
      have q4 : (j : Int) < (n : Int) := by omega
      have e2 : (a + ((j + 1 : Nat) : Int)) % 65536 = ((a + (j : Int)) % 65536 + 1) % 65536 := by omega
      rw [if_pos h, hv, if_pos q3, if_pos q4, rd_upto a n j (by omega), wrap_tells, wrap_mod]
      simp only [Option.bind_some]
      rw [if_pos e2, hrec]
    · rw [if_neg h, hrec]

theorem lists_all (K : Nat) (hK : 3010 ≤ K) (a n : Int) : cosmaclaw03_AddrLists.f (K + 2) a n = some true := by
  have ht := lists_true (K + 1) (by omega) a n
  unfold cosmaclaw03_AddrLists.f
  rw [awake_tells (K + 2) (by omega)]
  simp only [Option.bind_some, if_true]
  rw [right_tells]
  simp only [Option.bind_some]
  by_cases h1 : rightB a n = true
  · rw [if_pos h1]
    by_cases h2 : n > 3000
    · rw [decide_eq_true h2, ht]
    · rw [decide_eq_false h2]
      obtain ⟨a0, a1, n0, n1⟩ := right_yes h1
      obtain ⟨n, rfl⟩ := Int.eq_ofNat_of_zero_le n0
      have hl := lists_loop a n (by omega) n K 0 (by omega) (by omega)
      have hz : (0 : Int) = ((0 : Nat) : Int) := rfl
      simp only [cosmaclaw03_AddrLists.j0]
      rw [if_neg (by simp), list_tells (K + 1) a n a0 a1 (by omega)]
      simp only [Option.bind_some]
      rw [upto_length, if_pos rfl]
      have hj : cosmaclaw03_AddrLists.j1 (K + 1) a (n : Int) (upto a n) false = some true := by
        simp only [cosmaclaw03_AddrLists.j1]
        rw [if_neg (by simp)]
        exact hl
      by_cases h3 : (n : Int) > 0
      · have e : (rd (upto a n) 0 != a) = false := by
          have := rd_upto a n 0 (by omega)
          rw [← hz] at this
          rw [this]
          simp only [bne_eq_false_iff_eq]
          omega
        rw [if_pos h3, if_pos (by omega), e, hj]
      · obtain rfl : n = 0 := by omega
        rw [if_neg h3]
        exact hj
  · rw [if_neg h1, ht]

theorem AddrLists : cosmaclaw03_AddrLists.Pure := fun a n _ _ => ⟨3010 + 2, lists_all 3010 (Nat.le_refl _) a n⟩

end Go.Proofs.Ytpccokimjmmmoaa.Pure
