/- For all bytes and numbers Split, Number, Bytes and Hex return what the reference returns; for every high, low: byte, and every n, digits: int. -/
import Derived.Test.YtafphdmfikkmaaaM3
import Derived.OpenShut
import Derived.IntWalk
import Derived.Lib.IndexBytes
import Derived.Laws.BitsAllLaws
import Derived.Laws.BytesArg
namespace Go.Proofs.Ytafphdmfikkmaaa.Pure
open Go.RowKit Go.Proofs.Ytafphdmfikkmaaa.PWordMatchesReference Go.Proofs.YtafphdmfikkmaaaW.PrintWords Go.Proofs.YtafphdmfikkmaaaW.PrintLast

theorem ofInt_toNat (a : Int) : (BitVec.ofInt 64 a).toNat = (a % 18446744073709551616).toNat := by
  rw [BitVec.toNat_ofInt]
  rfl

/-- x & (2^j - 1) is the remainder, of a negative x too. -/
theorem and_mask (a : Int) (j : Nat) (hj : j ≤ 32) : Go.bits .and .i64 a ((2 : Int) ^ j - 1) = a % (2 : Int) ^ j := by
  have hp : (2 : Nat) ^ j ≤ 4294967296 := by
    have := Nat.pow_le_pow_right (show 0 < 2 by omega) hj
    simpa using this
  have hp0 : 0 < (2 : Nat) ^ j := Nat.pow_pos (by omega)
  have hd : (2 : Nat) ^ j ∣ 18446744073709551616 := by
    have h := Nat.pow_dvd_pow 2 (show j ≤ 64 by omega)
    simpa using h
  have hc : ((2 : Int) ^ j - 1) = (((2 : Nat) ^ j - 1 : Nat) : Int) := by
    have e : ((2 : Int) ^ j) = (((2 : Nat) ^ j : Nat) : Int) := by simp
    rw [e]; omega
  have hc2 : ((2 : Int) ^ j) = (((2 : Nat) ^ j : Nat) : Int) := by simp
  show IntKind.i64.wrap ((BitVec.ofInt 64 a &&& BitVec.ofInt 64 ((2 : Int) ^ j - 1)).toNat : Int) = _
  rw [BitVec.toNat_and, ofInt_toNat, ofInt_toNat, hc]
  have h1 : ((((2 : Nat) ^ j - 1 : Nat) : Int) % 18446744073709551616).toNat = 2 ^ j - 1 := by
    rw [Int.emod_eq_of_lt (by omega) (by omega)]; simp
  rw [h1, Nat.and_two_pow_sub_one_eq_mod, IntWalk.i64_in _ (by
    have := Nat.mod_lt (a % 18446744073709551616).toNat hp0
    omega), hc2]
  have h2 : (((a % 18446744073709551616).toNat % 2 ^ j : Nat) : Int) = (a % 18446744073709551616) % ((2 ^ j : Nat) : Int) := by
    rw [Int.natCast_emod, Int.toNat_of_nonneg (by omega)]
  rw [h2, Int.emod_emod_of_dvd]
  have := Int.natCast_dvd_natCast.2 hd
  simpa using this

theorem and_15 (a : Int) : Go.bits .and .i64 a 15 = a % 16 := and_mask a 4 (by omega)
theorem and_255 (a : Int) : Go.bits .and .i64 a 255 = a % 256 := and_mask a 8 (by omega)
theorem and_4095 (a : Int) : Go.bits .and .i64 a 4095 = a % 4096 := and_mask a 12 (by omega)

/-- high bits | low bits is the sum. -/
theorem or_join (j : Nat) (x y : Int) (hx0 : 0 ≤ x) (hx1 : x ≤ 65535) (hy0 : 0 ≤ y) (hy1 : y < (2 : Int) ^ j) (hy2 : y ≤ 65535) (hx : x % (2 : Int) ^ j = 0) :
    Go.bits .or .i64 x y = x + y := by
  have hc2 : ((2 : Int) ^ j) = (((2 : Nat) ^ j : Nat) : Int) := by simp
  obtain ⟨a, rfl⟩ := Int.eq_ofNat_of_zero_le hx0
  obtain ⟨b, rfl⟩ := Int.eq_ofNat_of_zero_le hy0
  rw [hc2] at hy1 hx
  show IntKind.i64.wrap ((BitVec.ofInt 64 (a : Int) ||| BitVec.ofInt 64 (b : Int)).toNat : Int) = _
  rw [BitVec.toNat_or, ofInt_toNat, ofInt_toNat]
  have ha : ((a : Int) % 18446744073709551616).toNat = a := by omega
  have hb : ((b : Int) % 18446744073709551616).toNat = b := by omega
  rw [ha, hb, nat_join j a b (by
    have : ((a % 2 ^ j : Nat) : Int) = 0 := by rw [Int.natCast_emod]; exact hx
    omega) (by omega)]
  exact IntWalk.i64_in _ (by omega)

theorem number_tells (h l : Int) (h0 : 0 ≤ h) (h1 : h ≤ 255) (l0 : 0 ≤ l) (l1 : l ≤ 255) : word_Number.f h l = some (h * 256 + l) := by
  have w1 : wrap64 h = h := by unfold wrap64; omega
  have w2 : wrap64 (h * 256) = h * 256 := by unfold wrap64; omega
  have w3 : wrap64 l = l := by unfold wrap64; omega
  unfold word_Number.f
  rw [w1, w2, w3, or_join 8 (h * 256) l (by omega) (by omega) l0 (by omega) (by omega) (by omega)]

theorem split_tells (h l : Int) (h0 : 0 ≤ h) (h1 : h ≤ 255) (l0 : 0 ≤ l) (l1 : l ≤ 255) :
    word_Split.f h l = some (h / 16, h % 16, l / 16, l % 16, l, h % 16 * 256 + l) := by
  unfold word_Split.f
  rw [number_tells h l h0 h1 l0 l1]
  simp only [Option.bind_some]
  rw [and_15, and_15, and_15, and_255, and_4095]
  have e1 : (h * 256 + l) / 4096 = h / 16 := by omega
  have e2 : (h * 256 + l) / 256 % 16 = h % 16 := by omega
  have e3 : (h * 256 + l) / 16 % 16 = l / 16 := by omega
  have e4 : (h * 256 + l) % 16 = l % 16 := by omega
  have e5 : (h * 256 + l) % 256 = l := by omega
  have e6 : (h * 256 + l) % 4096 = h % 16 * 256 + l := by omega
  rw [e1, e2, e3, e4, e5, e6]

theorem digit_tells (n : Int) : word_digit.f n = some (decide (0 ≤ n ∧ n < 16)) := by
  unfold word_digit.f
  by_cases h : n ≥ 0
  · rw [if_pos h]
    congr 1
    by_cases h2 : n < 16
    · rw [decide_eq_true h2, decide_eq_true ⟨h, h2⟩]
    · rw [decide_eq_false h2, decide_eq_false (by omega)]
  · rw [if_neg h, decide_eq_false (by omega)]

theorem join_yes (a b c d : Int) (ha : 0 ≤ a ∧ a < 16) (hb : 0 ≤ b ∧ b < 16) (hc : 0 ≤ c ∧ c < 16) (hd : 0 ≤ d ∧ d < 16) :
    word_Join.f a b c d = some (a * 16 + b, c * 16 + d, 0) := by
  have w1 : wrap64 (a * 16) = a * 16 := by unfold wrap64; omega
  have w2 : wrap64 (c * 16) = c * 16 := by unfold wrap64; omega
  unfold word_Join.f
  rw [digit_tells, digit_tells, digit_tells, digit_tells, decide_eq_true ha, decide_eq_true hb, decide_eq_true hc, decide_eq_true hd]
  simp only [Option.bind_some, if_true]
  rw [w1, w2, or_join 4 (a * 16) b (by omega) (by omega) (by omega) (by omega) (by omega) (by omega),
    or_join 4 (c * 16) d (by omega) (by omega) (by omega) (by omega) (by omega) (by omega)]
  have e1 : (a * 16 + b) % 256 = a * 16 + b := by omega
  have e2 : (c * 16 + d) % 256 = c * 16 + d := by omega
  rw [e1, e2]

theorem join_no (a b c d : Int) (h : ¬ ((0 ≤ a ∧ a < 16) ∧ (0 ≤ b ∧ b < 16) ∧ (0 ≤ c ∧ c < 16) ∧ (0 ≤ d ∧ d < 16))) :
    word_Join.f a b c d = some (0, 0, 5) := by
  unfold word_Join.f
  rw [digit_tells, digit_tells, digit_tells, digit_tells]
  simp only [Option.bind_some]
  by_cases ha : 0 ≤ a ∧ a < 16
  · rw [if_pos (decide_eq_true ha)]
    by_cases hb : 0 ≤ b ∧ b < 16
    · rw [if_pos (decide_eq_true hb)]
      by_cases hc : 0 ≤ c ∧ c < 16
      · rw [if_pos (decide_eq_true hc)]
        by_cases hd : 0 ≤ d ∧ d < 16
        · exact absurd ⟨ha, hb, hc, hd⟩ h
        · rw [if_neg (by simpa using hd)]
      · rw [if_neg (by simpa using hc)]
    · rw [if_neg (by simpa using hb)]
  · rw [if_neg (by simpa using ha)]

/-- The text of a digit. -/
def dg (c : Int) : Int := bt (⟨#[48, 49, 50, 51, 52, 53, 54, 55, 56, 57, 65, 66, 67, 68, 69, 70]⟩ : ByteArray) c

/-- The last d digits of n, the greatest one first. -/
def hexL : Nat → Int → List Int
  | 0, _ => []
  | d + 1, n => dg (n / 16 ^ d % 16) :: hexL d n

theorem hexL_length (d : Nat) (n : Int) : (hexL d n).length = d := by
  induction d with
  | zero => rfl
  | succ d ih => simp [hexL, ih]

theorem set_mid (m : Nat) (v : Int) (L : List Int) : (List.replicate (m + 1) (0 : Int) ++ L).set m v = List.replicate m 0 ++ v :: L := by
  rw [List.replicate_succ', List.append_assoc, List.set_append_right _ _ (by simp)]
  simp

theorem div_pow (n : Int) (i : Nat) : n / 16 ^ i / 16 = n / 16 ^ (i + 1) := by
  rw [Int.pow_succ, Int.ediv_ediv_of_nonneg (by exact Int.pow_nonneg (by omega))]

theorem hex_loop (n : Int) (D : Nat) (h1 : D ≤ 8) (d : Nat) : ∀ (k i : Nat), i + d = D → d < k →
    word_Hex.l0 k (n / 16 ^ i) (D : Int) (List.replicate d 0 ++ hexL i n) (D : Int) (i : Int) = some (strOfNums (hexL D n)) := by
  induction d with
  | zero =>
    intro k i hi hk
    obtain ⟨k, rfl⟩ : ∃ m, k = m + 1 := ⟨k - 1, by omega⟩
    obtain rfl : i = D := by omega
    simp only [word_Hex.l0]
    rw [if_neg (by omega)]
    simp
  | succ d ih =>
    intro k i hi hk
    obtain ⟨k, rfl⟩ : ∃ m, k = m + 1 := ⟨k - 1, by omega⟩
    have w1 : wrap64 (wrap64 ((D : Int) - 1) - (i : Int)) = (d : Int) := by unfold wrap64; omega
    have w2 : wrap64 ((i : Int) + 1) = ((i + 1 : Nat) : Int) := by unfold wrap64; omega
    have hl : ((List.replicate (d + 1) (0 : Int) ++ hexL i n).length : Int) = (D : Int) := by
      simp only [List.length_append, List.length_replicate, hexL_length]; omega
    have hm : 0 ≤ n / 16 ^ i % 16 ∧ n / 16 ^ i % 16 < 16 := ⟨Int.emod_nonneg _ (by omega), Int.emod_lt_of_pos _ (by omega)⟩
    simp only [word_Hex.l0]
    rw [and_15, w1, w2, hl, if_pos (by omega), if_pos hm.1, if_pos hm.2, if_pos (by omega), if_pos (by omega), div_pow, Int.toNat_natCast, set_mid]
    exact ih k (i + 1) (by omega) (by omega)

theorem hex_tells (n : Int) (D : Nat) (k : Nat) (hD : 1 ≤ D) (h1 : D ≤ 8) (h0 : 0 ≤ n) (hn : n ≤ 4294967295) (hk : 10 ≤ k) :
    word_Hex.f k n (D : Int) = some (strOfNums (hexL D n)) := by
  obtain ⟨k, rfl⟩ : ∃ m, k = m + 1 := ⟨k - 1, by omega⟩
  unfold word_Hex.f
  rw [if_neg (by omega), if_neg (by omega), if_neg (by omega), decide_eq_false (by omega)]
  simp only [word_Hex.j0]
  rw [if_neg (by simp), if_pos (by omega), if_pos (by omega), Int.toNat_natCast]
  have h := hex_loop n D h1 D k 0 (by omega) (by omega)
  simpa [hexL] using h

theorem hex_empty (n D : Int) (k : Nat) (h : ¬ (1 ≤ D ∧ D ≤ 8 ∧ 0 ≤ n ∧ n ≤ 4294967295)) (hk : 1 ≤ k) : word_Hex.f k n D = some ⟨#[]⟩ := by
  obtain ⟨k, rfl⟩ : ∃ m, k = m + 1 := ⟨k - 1, by omega⟩
  have hj : word_Hex.j0 (k + 1) n D true = some ⟨#[]⟩ := by simp only [word_Hex.j0]; rw [if_pos trivial]
  unfold word_Hex.f
  by_cases a : D < 1
  · rw [if_pos a, hj]
  · rw [if_neg a]
    by_cases b : D > 8
    · rw [if_pos b, hj]
    · rw [if_neg b]
      by_cases c : n < 0
      · rw [if_pos c, hj]
      · rw [if_neg c, decide_eq_true (by omega), hj]

theorem awake_tells (k : Nat) (hk : 10 ≤ k) : cosmaclaw01_awake.f k = some true := by
  unfold cosmaclaw01_awake.f
  rw [join_yes 13 1 2 3 (by omega) (by omega) (by omega) (by omega), join_no 16 0 0 0 (by omega)]
  simp only [Option.bind_some]
  unfold word_Bytes.f
  simp only [Option.bind_some]
  rw [split_tells 209 35 (by omega) (by omega) (by omega) (by omega)]
  simp only [Option.bind_some]
  rw [number_tells 1 2 (by omega) (by omega) (by omega) (by omega)]
  simp only [Option.bind_some]
  have h := hex_tells 171 4 k (by omega) (by omega) (by omega) (by omega) hk
  rw [show (4 : Int) = ((4 : Nat) : Int) from rfl, h]
  decide +kernel

theorem mod_tells (n : Int) : cosmacref01_Mod.f n = some (n % 65536) := by
  unfold cosmacref01_Mod.f
  have ht : Int.tmod n 65536 = n - 65536 * Int.tdiv n 65536 := by have := Int.tmod_add_mul_tdiv n 65536; omega
  have hp : 0 ≤ n → Int.tmod n 65536 = n % 65536 := fun h => Int.tmod_eq_emod_of_nonneg h
  have hn : n < 0 → Int.tmod n 65536 = - ((-n) % 65536) := fun h => by
    have e : Int.tmod n 65536 = - Int.tmod (-n) 65536 := by rw [Int.neg_tmod]; omega
    rw [e, Int.tmod_eq_emod_of_nonneg (by omega)]
  by_cases h : 0 ≤ n
  · rw [hp h, if_neg (by omega)]
  · rw [hn (by omega)]
    by_cases h2 : -(-n % 65536) < 0
    · rw [if_pos h2]
      congr 1
      unfold wrap64
      omega
    · rw [if_neg h2]
      congr 1
      omega


theorem piece : ∀ c : Fin 16, (⟨#[48, 49, 50, 51, 52, 53, 54, 55, 56, 57, 65, 66, 67, 68, 69, 70]⟩ : ByteArray).extract c.val (c.val + 1) = ⟨#[UInt8.ofNat (dg ((c.val : Nat) : Int)).toNat]⟩ := by decide +kernel

theorem piece_nat (c : Nat) (hc : c < 16) : (⟨#[48, 49, 50, 51, 52, 53, 54, 55, 56, 57, 65, 66, 67, 68, 69, 70]⟩ : ByteArray).extract c (c + 1) = ⟨#[UInt8.ofNat (dg (c : Int)).toNat]⟩ := piece ⟨c, hc⟩

theorem cons_bytes (x : Int) (L : List Int) : (⟨#[UInt8.ofNat x.toNat]⟩ : ByteArray) ++ strOfNums L = strOfNums (x :: L) := by
  apply ByteArray.ext
  simp [strOfNums]

theorem piece_append (c : Int) (h0 : 0 ≤ c) (h1 : c < 16) (L : List Int) : (⟨#[48, 49, 50, 51, 52, 53, 54, 55, 56, 57, 65, 66, 67, 68, 69, 70]⟩ : ByteArray).extract c.toNat (c + 1).toNat ++ strOfNums L = strOfNums (dg c :: L) := by
  obtain ⟨j, rfl⟩ := Int.eq_ofNat_of_zero_le h0
  have e1 : ((j : Int)).toNat = j := by omega
  have e2 : ((j : Int) + 1).toNat = j + 1 := by omega
  rw [e1, e2, piece_nat j (by omega)]
  exact cons_bytes _ _

theorem far (m : Nat) (h : m ≤ 9) : m ≤ 9223372036854775807 := Nat.le_trans h (by decide)

theorem piece_size (c : Int) (h0 : 0 ≤ c) (h1 : c < 16) (L : List Int) (i : Nat) (hl : L.length = i) (hi : i ≤ 8) :
    ((⟨#[48, 49, 50, 51, 52, 53, 54, 55, 56, 57, 65, 66, 67, 68, 69, 70]⟩ : ByteArray).extract c.toNat (c + 1).toNat).size + (strOfNums L).size ≤ 9223372036854775807 := by
  rw [← ByteArray.size_append, piece_append c h0 h1 L, strOfNums_size]
  refine far _ ?_
  rw [List.length_cons, hl]
  exact Nat.succ_le_succ hi

theorem refhex_loop (n : Int) (D : Nat) (h1 : D ≤ 8) (h0 : 0 ≤ n) (hn : n ≤ 4294967295) (d : Nat) : ∀ (k i : Nat), i + d = D → d < k →
    cosmacref01_Hex.l0 k (n / 16 ^ i) (D : Int) (⟨#[48, 49, 50, 51, 52, 53, 54, 55, 56, 57, 65, 66, 67, 68, 69, 70]⟩ : ByteArray) (strOfNums (hexL i n)) (i : Int) = some (strOfNums (hexL D n)) := by
  induction d with
  | zero =>
    intro k i hi hk
    obtain ⟨k, rfl⟩ : ∃ m, k = m + 1 := ⟨k - 1, by omega⟩
    obtain rfl : i = D := by omega
    simp only [cosmacref01_Hex.l0]
    rw [if_neg (by omega)]
  | succ d ih =>
    intro k i hi hk
    obtain ⟨k, rfl⟩ : ∃ m, k = m + 1 := ⟨k - 1, by omega⟩
    have q0 : i ≤ 8 := by omega
    have q1 : (i : Int) < (D : Int) := by omega
    have hq : 0 ≤ n / 16 ^ i := Int.ediv_nonneg h0 (Int.pow_nonneg (by omega))
    have hq1 : n / 16 ^ i ≤ n := Int.ediv_le_self _ h0
    have ht : Int.tmod (n / 16 ^ i) 16 = n / 16 ^ i % 16 := Int.tmod_eq_emod_of_nonneg hq
    have hv : wrap64 (Int.tdiv (n / 16 ^ i) 16) = n / 16 ^ (i + 1) := by
      rw [Int.tdiv_eq_ediv_of_nonneg hq, ← div_pow]
      unfold wrap64
      omega
    have hm : 0 ≤ n / 16 ^ i % 16 ∧ n / 16 ^ i % 16 < 16 := ⟨Int.emod_nonneg _ (by omega), Int.emod_lt_of_pos _ (by omega)⟩
    have w1 : wrap64 (n / 16 ^ i % 16 + 1) = n / 16 ^ i % 16 + 1 := by unfold wrap64; omega
    have w2 : wrap64 ((i : Int) + 1) = ((i + 1 : Nat) : Int) := by unfold wrap64; omega
    have hsz : ((⟨#[48, 49, 50, 51, 52, 53, 54, 55, 56, 57, 65, 66, 67, 68, 69, 70]⟩ : ByteArray).size : Int) = 16 := rfl
    have hp := piece_append (n / 16 ^ i % 16) hm.1 hm.2 (hexL i n)
    have q2 : n / 16 ^ i % 16 ≤ n / 16 ^ i % 16 + 1 := by omega
    have q3 : n / 16 ^ i % 16 + 1 ≤ 16 := by omega
    have q4 := piece_size (n / 16 ^ i % 16) hm.1 hm.2 (hexL i n) i (hexL_length i n) q0
    simp only [cosmacref01_Hex.l0]
    rw [ht, hv, w1, w2, hsz, if_pos q1, if_pos hm.1, if_pos q2, if_pos q3, if_pos q4, hp]
    exact ih k (i + 1) (by omega) (by omega)

theorem refhex_tells (n : Int) (D : Nat) (k : Nat) (hD : 1 ≤ D) (h1 : D ≤ 8) (h0 : 0 ≤ n) (hn : n ≤ 4294967295) (hk : 10 ≤ k) :
    cosmacref01_Hex.f k n (D : Int) = some (strOfNums (hexL D n)) := by
  obtain ⟨k, rfl⟩ : ∃ m, k = m + 1 := ⟨k - 1, by omega⟩
  unfold cosmacref01_Hex.f
  rw [if_neg (by omega), if_neg (by omega), if_neg (by omega), decide_eq_false (by omega)]
  simp only [cosmacref01_Hex.j0]
  rw [if_neg (by simp)]
  have h := refhex_loop n D h1 h0 hn D k 0 (by omega) (by omega)
  simpa [hexL, strOfNums] using h

theorem refhex_empty (n D : Int) (k : Nat) (h : ¬ (1 ≤ D ∧ D ≤ 8 ∧ 0 ≤ n ∧ n ≤ 4294967295)) (hk : 1 ≤ k) : cosmacref01_Hex.f k n D = some ⟨#[]⟩ := by
  obtain ⟨k, rfl⟩ : ∃ m, k = m + 1 := ⟨k - 1, by omega⟩
  have hj : cosmacref01_Hex.j0 (k + 1) n D true = some ⟨#[]⟩ := by simp only [cosmacref01_Hex.j0]; rw [if_pos trivial]
  unfold cosmacref01_Hex.f
  by_cases a : D < 1
  · rw [if_pos a, hj]
  · rw [if_neg a]
    by_cases b : D > 8
    · rw [if_pos b, hj]
    · rw [if_neg b]
      by_cases c : n < 0
      · rw [if_pos c, hj]
      · rw [if_neg c, decide_eq_true (by omega), hj]

theorem hex_same (n D : Int) : ∃ s, word_Hex.f 10 n D = some s ∧ cosmacref01_Hex.f 10 n D = some s := by
  by_cases h : 1 ≤ D ∧ D ≤ 8 ∧ 0 ≤ n ∧ n ≤ 4294967295
  · obtain ⟨d, rfl⟩ := Int.eq_ofNat_of_zero_le (show 0 ≤ D by omega)
    exact ⟨_, hex_tells n d 10 (by omega) (by omega) (by omega) (by omega) (by omega), refhex_tells n d 10 (by omega) (by omega) (by omega) (by omega) (by omega)⟩
  · exact ⟨_, hex_empty n D 10 h (by omega), refhex_empty n D 10 h (by omega)⟩

theorem refsplit_tells (h l : Int) (h0 : 0 ≤ h) (h1 : h ≤ 255) (l0 : 0 ≤ l) (l1 : l ≤ 255) :
    cosmacref01_Split.f h l = some (h / 16, h % 16, l / 16, l % 16, l, h % 16 * 256 + l) := by
  have w1 : wrap64 h = h := by unfold wrap64; omega
  have w2 : wrap64 l = l := by unfold wrap64; omega
  have t1 : Int.tmod h 16 = h % 16 := Int.tmod_eq_emod_of_nonneg h0
  have t2 : Int.tmod l 16 = l % 16 := Int.tmod_eq_emod_of_nonneg l0
  have t3 : Int.tdiv h 16 = h / 16 := Int.tdiv_eq_ediv_of_nonneg h0
  have t4 : Int.tdiv l 16 = l / 16 := Int.tdiv_eq_ediv_of_nonneg l0
  have w3 : wrap64 (h / 16) = h / 16 := by unfold wrap64; omega
  have w4 : wrap64 (l / 16) = l / 16 := by unfold wrap64; omega
  have w5 : wrap64 (wrap64 (h % 16 * 256) + l) = h % 16 * 256 + l := by unfold wrap64; omega
  unfold cosmacref01_Split.f
  rw [w1, w2, t1, t2, t3, t4, w3, w4, w5]

theorem WordMatchesReference : cosmaclaw01_WordMatchesReference.Pure := by
  intro h l n d wh wl wn wd
  obtain ⟨h0, h1⟩ := bounds_u8 wh
  obtain ⟨l0, l1⟩ := bounds_u8 wl
  refine ⟨10, ?_⟩
  obtain ⟨s, hs1, hs2⟩ := hex_same n d
  unfold cosmaclaw01_WordMatchesReference.f
  rw [awake_tells 10 (by omega)]
  simp only [Option.bind_some, if_true]
  rw [refsplit_tells h l h0 h1 l0 l1, mod_tells]
  simp only [Option.bind_some]
  unfold word_Bytes.f
  simp only [Option.bind_some]
  rw [split_tells h l h0 h1 l0 l1]
  simp only [Option.bind_some, beq_self_eq_true, Bool.and_self, if_true]
  rw [number_tells h l h0 h1 l0 l1]
  simp only [Option.bind_some]
  have w1 : wrap64 (wrap64 (wrap64 h * 256) + wrap64 l) = h * 256 + l := by unfold wrap64; omega
  have t1 : Int.tdiv (n % 65536) 256 = n % 65536 / 256 := Int.tdiv_eq_ediv_of_nonneg (by omega)
  have t2 : Int.tmod (n % 65536) 256 = n % 65536 % 256 := Int.tmod_eq_emod_of_nonneg (by omega)
  have w2 : wrap64 (n / 256 % 256) = wrap64 (n % 65536 / 256) := by congr 1; omega
  have w3 : wrap64 (n % 256) = n % 65536 % 256 := by unfold wrap64; omega
  rw [w1, t1, t2, w2, w3, if_pos rfl, if_pos rfl, if_pos rfl, hs1, hs2]
  simp only [Option.bind_some, beq_self_eq_true]

end Go.Proofs.Ytafphdmfikkmaaa.Pure
