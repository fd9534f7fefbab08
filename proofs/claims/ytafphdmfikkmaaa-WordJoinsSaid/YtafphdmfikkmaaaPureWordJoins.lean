/- Digits are joined exactly if each one is from 0 to 15, and are the fields of the result; for every head, x, y, n: int. -/
import Derived.Test.YtafphdmfikkmaaaPWordJoinsx3
import Derived.OpenShut
import Derived.IntWalk
import Derived.Lib.IndexBytes
import Derived.Laws.BitsAllLaws
import Derived.Laws.BytesArg
namespace Go.Proofs.Ytafphdmfikkmaaa.Pure
open Go.RowKit Go.Proofs.Ytafphdmfikkmaaa.PWordJoins Go.Proofs.YtafphdmfikkmaaaW.PrintWords Go.Proofs.YtafphdmfikkmaaaW.PrintLast

theorem ofInt_toNat (a : Int) : (BitVec.ofInt 64 a).toNat = (a % 18446744073709551616).toNat := by
  rw [BitVec.toNat_ofInt]
  rfl

/-- x & (2^j - 1) is the remainder, of a negative x too. -/
theorem and_mask (a : Int) (j : Nat) (hj : j ≤ 32) : Go.bits .and .i64 a ((2 : Int) ^ j - 1) = a % (2 : Int) ^ j := by
  have hp : (2 : Nat) ^ j ≤ 4294967296 := by
    have := Nat.pow_le_pow_right (show 0 < 2 by omega) hj
    simpa using this
  have hp0 : 0 < (2 : Nat) ^ j := Nat.pow_pos (by omega)
  have hd : (2 : Nat) ^ j ∣ 18446744073709551616 := by
    have h := Nat.pow_dvd_pow 2 (show j ≤ 64 by omega)
    simpa using h
  have hc : ((2 : Int) ^ j - 1) = (((2 : Nat) ^ j - 1 : Nat) : Int) := by
    have e : ((2 : Int) ^ j) = (((2 : Nat) ^ j : Nat) : Int) := by simp
    rw [e]; omega
  have hc2 : ((2 : Int) ^ j) = (((2 : Nat) ^ j : Nat) : Int) := by simp
  show IntKind.i64.wrap ((BitVec.ofInt 64 a &&& BitVec.ofInt 64 ((2 : Int) ^ j - 1)).toNat : Int) = _
  rw [BitVec.toNat_and, ofInt_toNat, ofInt_toNat, hc]
  have h1 : ((((2 : Nat) ^ j - 1 : Nat) : Int) % 18446744073709551616).toNat = 2 ^ j - 1 := by
    rw [Int.emod_eq_of_lt (by omega) (by omega)]; simp
  rw [h1, Nat.and_two_pow_sub_one_eq_mod, IntWalk.i64_in _ (by
    have := Nat.mod_lt (a % 18446744073709551616).toNat hp0
    omega), hc2]
  have h2 : (((a % 18446744073709551616).toNat % 2 ^ j : Nat) : Int) = (a % 18446744073709551616) % ((2 ^ j : Nat) : Int) := by
    rw [Int.natCast_emod, Int.toNat_of_nonneg (by omega)]
  rw [h2, Int.emod_emod_of_dvd]
  have := Int.natCast_dvd_natCast.2 hd
  simpa using this

theorem and_15 (a : Int) : Go.bits .and .i64 a 15 = a % 16 := and_mask a 4 (by omega)
theorem and_255 (a : Int) : Go.bits .and .i64 a 255 = a % 256 := and_mask a 8 (by omega)
theorem and_4095 (a : Int) : Go.bits .and .i64 a 4095 = a % 4096 := and_mask a 12 (by omega)

/-- high bits | low bits is the sum. -/
theorem or_join (j : Nat) (x y : Int) (hx0 : 0 ≤ x) (hx1 : x ≤ 65535) (hy0 : 0 ≤ y) (hy1 : y < (2 : Int) ^ j) (hy2 : y ≤ 65535) (hx : x % (2 : Int) ^ j = 0) :
    Go.bits .or .i64 x y = x + y := by
  have hc2 : ((2 : Int) ^ j) = (((2 : Nat) ^ j : Nat) : Int) := by simp
  obtain ⟨a, rfl⟩ := Int.eq_ofNat_of_zero_le hx0
  obtain ⟨b, rfl⟩ := Int.eq_ofNat_of_zero_le hy0
  rw [hc2] at hy1 hx
  show IntKind.i64.wrap ((BitVec.ofInt 64 (a : Int) ||| BitVec.ofInt 64 (b : Int)).toNat : Int) = _
  rw [BitVec.toNat_or, ofInt_toNat, ofInt_toNat]
  have ha : ((a : Int) % 18446744073709551616).toNat = a := by omega
  have hb : ((b : Int) % 18446744073709551616).toNat = b := by omega
  rw [ha, hb, nat_join j a b (by
    have : ((a % 2 ^ j : Nat) : Int) = 0 := by rw [Int.natCast_emod]; exact hx
    omega) (by omega)]
  exact IntWalk.i64_in _ (by omega)

theorem number_tells (h l : Int) (h0 : 0 ≤ h) (h1 : h ≤ 255) (l0 : 0 ≤ l) (l1 : l ≤ 255) : word_Number.f h l = some (h * 256 + l) := by
  have w1 : wrap64 h = h := by unfold wrap64; omega
  have w2 : wrap64 (h * 256) = h * 256 := by unfold wrap64; omega
  have w3 : wrap64 l = l := by unfold wrap64; omega
  unfold word_Number.f
  rw [w1, w2, w3, or_join 8 (h * 256) l (by omega) (by omega) l0 (by omega) (by omega) (by omega)]

theorem split_tells (h l : Int) (h0 : 0 ≤ h) (h1 : h ≤ 255) (l0 : 0 ≤ l) (l1 : l ≤ 255) :
    word_Split.f h l = some (h / 16, h % 16, l / 16, l % 16, l, h % 16 * 256 + l) := by
  unfold word_Split.f
  rw [number_tells h l h0 h1 l0 l1]
  simp only [Option.bind_some]
  rw [and_15, and_15, and_15, and_255, and_4095]
  have e1 : (h * 256 + l) / 4096 = h / 16 := by omega
  have e2 : (h * 256 + l) / 256 % 16 = h % 16 := by omega
  have e3 : (h * 256 + l) / 16 % 16 = l / 16 := by omega
  have e4 : (h * 256 + l) % 16 = l % 16 := by omega
  have e5 : (h * 256 + l) % 256 = l := by omega
  have e6 : (h * 256 + l) % 4096 = h % 16 * 256 + l := by omega
  rw [e1, e2, e3, e4, e5, e6]

theorem digit_tells (n : Int) : word_digit.f n = some (decide (0 ≤ n ∧ n < 16)) := by
  unfold word_digit.f
  by_cases h : n ≥ 0
  · rw [if_pos h]
    congr 1
    by_cases h2 : n < 16
    · rw [decide_eq_true h2, decide_eq_true ⟨h, h2⟩]
    · rw [decide_eq_false h2, decide_eq_false (by omega)]
  · rw [if_neg h, decide_eq_false (by omega)]

theorem join_yes (a b c d : Int) (ha : 0 ≤ a ∧ a < 16) (hb : 0 ≤ b ∧ b < 16) (hc : 0 ≤ c ∧ c < 16) (hd : 0 ≤ d ∧ d < 16) :
    word_Join.f a b c d = some (a * 16 + b, c * 16 + d, 0) := by
  have w1 : wrap64 (a * 16) = a * 16 := by unfold wrap64; omega
  have w2 : wrap64 (c * 16) = c * 16 := by unfold wrap64; omega
  unfold word_Join.f
  rw [digit_tells, digit_tells, digit_tells, digit_tells, decide_eq_true ha, decide_eq_true hb, decide_eq_true hc, decide_eq_true hd]
  simp only [Option.bind_some, if_true]
  rw [w1, w2, or_join 4 (a * 16) b (by omega) (by omega) (by omega) (by omega) (by omega) (by omega),
    or_join 4 (c * 16) d (by omega) (by omega) (by omega) (by omega) (by omega) (by omega)]
  have e1 : (a * 16 + b) % 256 = a * 16 + b := by omega
  have e2 : (c * 16 + d) % 256 = c * 16 + d := by omega
  rw [e1, e2]

theorem join_no (a b c d : Int) (h : ¬ ((0 ≤ a ∧ a < 16) ∧ (0 ≤ b ∧ b < 16) ∧ (0 ≤ c ∧ c < 16) ∧ (0 ≤ d ∧ d < 16))) :
    word_Join.f a b c d = some (0, 0, 5) := by
  unfold word_Join.f
  rw [digit_tells, digit_tells, digit_tells, digit_tells]
  simp only [Option.bind_some]
  by_cases ha : 0 ≤ a ∧ a < 16
  · rw [if_pos (decide_eq_true ha)]
    by_cases hb : 0 ≤ b ∧ b < 16
    · rw [if_pos (decide_eq_true hb)]
      by_cases hc : 0 ≤ c ∧ c < 16
      · rw [if_pos (decide_eq_true hc)]
        by_cases hd : 0 ≤ d ∧ d < 16
        · exact absurd ⟨ha, hb, hc, hd⟩ h
        · rw [if_neg (by simpa using hd)]
      · rw [if_neg (by simpa using hc)]
    · rw [if_neg (by simpa using hb)]
  · rw [if_neg (by simpa using ha)]

/-- The text of a digit. -/
def dg (c : Int) : Int := bt (⟨#[48, 49, 50, 51, 52, 53, 54, 55, 56, 57, 65, 66, 67, 68, 69, 70]⟩ : ByteArray) c

/-- The last d digits of n, the greatest one first. -/
def hexL : Nat → Int → List Int
  | 0, _ => []
  | d + 1, n => dg (n / 16 ^ d % 16) :: hexL d n

theorem hexL_length (d : Nat) (n : Int) : (hexL d n).length = d := by
  induction d with
  | zero => rfl
  | succ d ih => simp [hexL, ih]

theorem set_mid (m : Nat) (v : Int) (L : List Int) : (List.replicate (m + 1) (0 : Int) ++ L).set m v = List.replicate m 0 ++ v :: L := by
  rw [List.replicate_succ', List.append_assoc, List.set_append_right _ _ (by simp)]
  simp

theorem div_pow (n : Int) (i : Nat) : n / 16 ^ i / 16 = n / 16 ^ (i + 1) := by
  rw [Int.pow_succ, Int.ediv_ediv_of_nonneg (by exact Int.pow_nonneg (by omega))]

theorem hex_loop (n : Int) (D : Nat) (h1 : D ≤ 8) (d : Nat) : ∀ (k i : Nat), i + d = D → d < k →
    word_Hex.l0 k (n / 16 ^ i) (D : Int) (List.replicate d 0 ++ hexL i n) (D : Int) (i : Int) = some (strOfNums (hexL D n)) := by
  induction d with
  | zero =>
    intro k i hi hk
    obtain ⟨k, rfl⟩ : ∃ m, k = m + 1 := ⟨k - 1, by omega⟩
    obtain rfl : i = D := by omega
    simp only [word_Hex.l0]
    rw [if_neg (by omega)]
    simp
  | succ d ih =>
    intro k i hi hk
    obtain ⟨k, rfl⟩ : ∃ m, k = m + 1 := ⟨k - 1, by omega⟩
    have w1 : wrap64 (wrap64 ((D : Int) - 1) - (i : Int)) = (d : Int) := by unfold wrap64; omega
    have w2 : wrap64 ((i : Int) + 1) = ((i + 1 : Nat) : Int) := by unfold wrap64; omega
    have hl : ((List.replicate (d + 1) (0 : Int) ++ hexL i n).length : Int) = (D : Int) := by
      simp only [List.length_append, List.length_replicate, hexL_length]; omega
    have hm : 0 ≤ n / 16 ^ i % 16 ∧ n / 16 ^ i % 16 < 16 := ⟨Int.emod_nonneg _ (by omega), Int.emod_lt_of_pos _ (by omega)⟩
    simp only [word_Hex.l0]
    rw [and_15, w1, w2, hl, if_pos (by omega), if_pos hm.1, if_pos hm.2, if_pos (by omega), if_pos (by omega), div_pow, Int.toNat_natCast, set_mid]
    exact ih k (i + 1) (by omega) (by omega)

theorem hex_tells (n : Int) (D : Nat) (k : Nat) (hD : 1 ≤ D) (h1 : D ≤ 8) (h0 : 0 ≤ n) (hn : n ≤ 4294967295) (hk : 10 ≤ k) :
    word_Hex.f k n (D : Int) = some (strOfNums (hexL D n)) := by
  obtain ⟨k, rfl⟩ : ∃ m, k = m + 1 := ⟨k - 1, by omega⟩
  unfold word_Hex.f
  rw [if_neg (by omega), if_neg (by omega), if_neg (by omega), decide_eq_false (by omega)]
  simp only [word_Hex.j0]
  rw [if_neg (by simp), if_pos (by omega), if_pos (by omega), Int.toNat_natCast]
  have h := hex_loop n D h1 D k 0 (by omega) (by omega)
  simpa [hexL] using h

theorem hex_empty (n D : Int) (k : Nat) (h : ¬ (1 ≤ D ∧ D ≤ 8 ∧ 0 ≤ n ∧ n ≤ 4294967295)) (hk : 1 ≤ k) : word_Hex.f k n D = some ⟨#[]⟩ := by
  obtain ⟨k, rfl⟩ : ∃ m, k = m + 1 := ⟨k - 1, by omega⟩
  have hj : word_Hex.j0 (k + 1) n D true = some ⟨#[]⟩ := by simp only [word_Hex.j0]; rw [if_pos trivial]
  unfold word_Hex.f
  by_cases a : D < 1
  · rw [if_pos a, hj]
  · rw [if_neg a]
    by_cases b : D > 8
    · rw [if_pos b, hj]
    · rw [if_neg b]
      by_cases c : n < 0
      · rw [if_pos c, hj]
      · rw [if_neg c, decide_eq_true (by omega), hj]

theorem awake_tells (k : Nat) (hk : 10 ≤ k) : cosmaclaw01_awake.f k = some true := by
  unfold cosmaclaw01_awake.f
  rw [join_yes 13 1 2 3 (by omega) (by omega) (by omega) (by omega), join_no 16 0 0 0 (by omega)]
  simp only [Option.bind_some]
  unfold word_Bytes.f
  simp only [Option.bind_some]
  rw [split_tells 209 35 (by omega) (by omega) (by omega) (by omega)]
  simp only [Option.bind_some]
  rw [number_tells 1 2 (by omega) (by omega) (by omega) (by omega)]
  simp only [Option.bind_some]
  have h := hex_tells 171 4 k (by omega) (by omega) (by omega) (by omega) hk
  rw [show (4 : Int) = ((4 : Nat) : Int) from rfl, h]
  decide +kernel

theorem refdigit_tells (n : Int) : cosmacref01_Digit.f n = some (decide (0 ≤ n ∧ n < 16)) := by
  unfold cosmacref01_Digit.f
  by_cases h : n ≥ 0
  · rw [if_pos h]
    congr 1
    by_cases h2 : n < 16
    · rw [decide_eq_true (show n ≤ 15 by omega), decide_eq_true ⟨h, h2⟩]
    · rw [decide_eq_false (show ¬ n ≤ 15 by omega), decide_eq_false (by omega)]
  · rw [if_neg h, decide_eq_false (by omega)]

theorem WordJoins : cosmaclaw01_WordJoins.Pure := by
  intro a b c d wa wb wc wd
  refine ⟨10, ?_⟩
  unfold cosmaclaw01_WordJoins.f
  rw [awake_tells 10 (by omega)]
  simp only [Option.bind_some, if_true]
  by_cases h : ((0 ≤ a ∧ a < 16) ∧ (0 ≤ b ∧ b < 16) ∧ (0 ≤ c ∧ c < 16) ∧ (0 ≤ d ∧ d < 16))
  · obtain ⟨ha, hb, hc, hd⟩ := h
    rw [join_yes a b c d ha hb hc hd, refdigit_tells, refdigit_tells, refdigit_tells, refdigit_tells, decide_eq_true ha, decide_eq_true hb, decide_eq_true hc, decide_eq_true hd]
    simp only [Option.bind_some, if_true]
    rw [split_tells (a * 16 + b) (c * 16 + d) (by omega) (by omega) (by omega) (by omega)]
    simp only [Option.bind_some]
    have e1 : (a * 16 + b) / 16 = a := by omega
    have e2 : (a * 16 + b) % 16 = b := by omega
    have e3 : (c * 16 + d) / 16 = c := by omega
    have e4 : (c * 16 + d) % 16 = d := by omega
    rw [e1, e2, e3, e4, if_pos rfl, if_pos rfl, if_pos rfl, beq_self_eq_true]
  · rw [join_no a b c d h, refdigit_tells, refdigit_tells, refdigit_tells, refdigit_tells]
    simp only [Option.bind_some]
    by_cases ha : 0 ≤ a ∧ a < 16
    · rw [if_pos (decide_eq_true ha)]
      by_cases hb : 0 ≤ b ∧ b < 16
      · rw [if_pos (decide_eq_true hb)]
        by_cases hc : 0 ≤ c ∧ c < 16
        · rw [if_pos (decide_eq_true hc)]
          by_cases hd : 0 ≤ d ∧ d < 16
          · exact absurd ⟨ha, hb, hc, hd⟩ h
          · rw [if_neg (by simpa using hd)]; rfl
        · rw [if_neg (by simpa using hc)]; rfl
      · rw [if_neg (by simpa using hb)]; rfl
    · rw [if_neg (by simpa using ha)]; rfl

end Go.Proofs.Ytafphdmfikkmaaa.Pure
