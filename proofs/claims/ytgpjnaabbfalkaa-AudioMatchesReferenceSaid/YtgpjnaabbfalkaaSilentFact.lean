/- Plain laws on patterns and samples. -/
import Derived.Test.YtgpjnaabbfalkaaSample
import Derived.Test.YtgpjnaabbfalkaaSilent
import Derived.Test.YtgpjnaabbfalkaaLoad
import Derived.Test.YtgpjnaabbfalkaaPAudioMatchesReferencex1
namespace Go.Proofs.Ytgpjnaabbfalkaa
open Go.RowKit Go.Proofs.YtgpjnaabbfalkaaW.PrintWords Go.Proofs.YtgpjnaabbfalkaaW.PrintLast Go.Proofs.YtgpjnaabbfalkaaW.PrintMore
open Go.Proofs.Ytgpjnaabbfalkaa.PAudioMatchesReference

theorem fill_bytes (bs : List Int) (hb : ∀ x ∈ bs, 0 ≤ x ∧ x ≤ 255) : ∀ x ∈ fill bs, 0 ≤ x ∧ x ≤ 255 := by
  intro x hx
  rcases List.mem_append.1 hx with h | h
  · exact hb x (List.mem_of_mem_take h)
  · rw [(List.mem_replicate.1 h).2]; omega

/-- What Fill has made when i bytes are over. -/
def part (bs : List Int) (i : Nat) : List Int := bs.take i ++ List.replicate (16 - i) 0
theorem part_length (bs : List Int) (i : Nat) (hi : i ≤ 16) (hb : i ≤ bs.length) : (part bs i).length = 16 := by simp [part]; omega
theorem part_set (bs : List Int) (i : Nat) (hi : i < 16) (hb : i < bs.length) : (part bs i).set i (rd bs (i : Int)) = part bs (i + 1) := by
  unfold part rd
  rw [Int.toNat_natCast, List.set_append_right _ _ (by simp; omega)]
  have e : i - (bs.take i).length = 0 := by simp; omega
  rw [e, show 16 - i = (16 - (i + 1)) + 1 by omega, List.replicate_succ, List.set_cons_zero, List.take_succ_eq_append_getElem hb, List.append_assoc]
  simp [List.getD_eq_getElem?_getD, List.getElem?_eq_getElem hb]

theorem fill_loop (bs : List Int) (d : Nat) : ∀ (k i : Nat), i ≤ 16 → i ≤ bs.length → min 16 bs.length - i = d → d < k → cosmacref11_Fill.l0 k bs (part bs i) (i : Int) = some (fill bs) := by
  induction d with
  | zero =>
    intro k i h1 h2 hd hk
    obtain ⟨k, rfl⟩ : ∃ m, k = m + 1 := ⟨k - 1, by omega⟩
    have hf : part bs i = fill bs := by
      unfold part fill
      by_cases h : i = 16
      · subst h
        have e : 16 - bs.length = 0 := by omega
        rw [e]
      · have hi : i = bs.length := by omega
        subst hi
        rw [List.take_of_length_le (Nat.le_refl _), List.take_of_length_le (by omega)]
    simp only [cosmacref11_Fill.l0]
    by_cases h : (i : Int) < 16
    · rw [if_pos h, if_neg (by omega), hf]
    · rw [if_neg h, hf]
  | succ d ih =>
    intro k i h1 h2 hd hk
    obtain ⟨k, rfl⟩ : ∃ m, k = m + 1 := ⟨k - 1, by omega⟩
    have q1 : (i : Int) < 16 := by omega
    have q2 : (i : Int) < (bs.length : Int) := by omega
    have q3 : 0 ≤ (i : Int) := by omega
    have q4 : (i : Int) < ((part bs i).length : Int) := by rw [part_length bs i (by omega) (by omega)]; omega
    have hw : wrap64 ((i : Int) + 1) = ((i + 1 : Nat) : Int) := by unfold wrap64; omega
    simp only [cosmacref11_Fill.l0]
    rw [if_pos q1, if_pos q2, if_pos q3, if_pos q4, Int.toNat_natCast, part_set bs i (by omega) (by omega), hw]
    exact ih k (i + 1) (by omega) (by omega) (by omega) (by omega)

theorem fill_tells (bs : List Int) : cosmacref11_Fill.f 17 bs = some (fill bs) := by
  unfold cosmacref11_Fill.f
  rw [if_pos (by omega)]
  exact fill_loop bs (min 16 bs.length) 17 0 (by omega) (by omega) (by omega) (by omega)

/-- How many of some numbers are c. -/
def cnt (c : Int) (l : List Int) : Nat := l.countP (fun x => x == c)
theorem cnt_succ (c : Int) (F : List Int) (k : Nat) (hk : k < F.length) : cnt c (F.take (k + 1)) = cnt c (F.take k) + if (rd F (k : Int) == c) = true then 1 else 0 := by
  unfold cnt rd
  rw [List.take_succ_eq_append_getElem hk, List.countP_append, Int.toNat_natCast]
  simp [List.getD_eq_getElem?_getD, List.getElem?_eq_getElem hk, List.countP_cons]
theorem cnt_le (c : Int) (l : List Int) : cnt c l ≤ l.length := List.countP_le_length

theorem bit_of (v : Int) (h0 : 0 ≤ v) (h1 : v ≤ 255) (h : ∀ r : Nat, r < 8 → v / 2 ^ (7 - r) % 2 = 0) : v = 0 := by
  have a0 := h 0 (by omega)
  have a1 := h 1 (by omega)
  have a2 := h 2 (by omega)
  have a3 := h 3 (by omega)
  have a4 := h 4 (by omega)
  have a5 := h 5 (by omega)
  have a6 := h 6 (by omega)
  have a7 := h 7 (by omega)
  clear h
  simp only [Nat.sub_zero, Nat.reduceSub, Int.reducePow] at a0 a1 a2 a3 a4 a5 a6 a7
  omega
theorem bit_one (v : Int) (h0 : 0 ≤ v) (h1 : v ≤ 255) (h : ∀ r : Nat, r < 8 → v / 2 ^ (7 - r) % 2 = 1) : v = 255 := by
  have a0 := h 0 (by omega)
  have a1 := h 1 (by omega)
  have a2 := h 2 (by omega)
  have a3 := h 3 (by omega)
  have a4 := h 4 (by omega)
  have a5 := h 5 (by omega)
  have a6 := h 6 (by omega)
  have a7 := h 7 (by omega)
  clear h
  simp only [Nat.sub_zero, Nat.reduceSub, Int.reducePow] at a0 a1 a2 a3 a4 a5 a6 a7
  omega

/-- Sample 8 i + r is bit 7 - r of byte i. -/
theorem smp_at (F : List Int) (i r : Nat) (hi : i < 16) (hr : r < 8) : smp F ((8 * i + r : Nat) : Int) = (F.getD i 0 / 2 ^ (7 - r) % 2 == 1) := by
  unfold smp
  have e1 : (((8 * i + r : Nat) : Int) % 128 / 8).toNat = i := by omega
  have e2 : (7 - ((8 * i + r : Nat) : Int) % 128 % 8).toNat = 7 - r := by omega
  rw [e1, e2]

theorem all_smp (F : List Int) : (upto F 128).all (· == smp F 0) = true ↔ ∀ i r : Nat, i < 16 → r < 8 → smp F ((8 * i + r : Nat) : Int) = smp F 0 := by
  rw [List.all_eq_true]
  constructor
  · intro h i r hi hr
    have := h _ (List.mem_map.2 ⟨8 * i + r, List.mem_range.2 (by omega), rfl⟩)
    simpa using this
  · intro h s hs
    obtain ⟨j, hj, rfl⟩ := List.mem_map.1 hs
    have hj := List.mem_range.1 hj
    have := h (j / 8) (j % 8) (by omega) (by omega)
    rw [show 8 * (j / 8) + j % 8 = j by omega] at this
    simpa using this

theorem cnt_all (c : Int) (F : List Int) (hF : F.length = 16) : cnt c F = 16 ↔ ∀ i : Nat, i < 16 → F.getD i 0 = c := by
  unfold cnt
  rw [← hF, List.countP_eq_length]
  constructor
  · intro h i hi
    rw [List.getD_eq_getElem?_getD, List.getElem?_eq_getElem hi]
    simpa using h _ (List.getElem_mem hi)
  · intro h x hx
    obtain ⟨i, hi, rfl⟩ := List.mem_iff_getElem.1 hx
    have := h i hi
    rw [List.getD_eq_getElem?_getD, List.getElem?_eq_getElem hi] at this
    simpa using this

theorem get_bytes (F : List Int) (hF : F.length = 16) (hb : ∀ x ∈ F, 0 ≤ x ∧ x ≤ 255) (i : Nat) (hi : i < 16) : 0 ≤ F.getD i 0 ∧ F.getD i 0 ≤ 255 := by
  rw [List.getD_eq_getElem?_getD, List.getElem?_eq_getElem (by omega)]
  exact hb _ (List.getElem_mem _)

/-- A PATTERN IS SILENT EXACTLY IF ALL ITS BYTES ARE 0, OR ALL ARE 255. -/
theorem silent_law (F : List Int) (hF : F.length = 16) (hb : ∀ x ∈ F, 0 ≤ x ∧ x ≤ 255) :
    (upto F 128).all (· == smp F 0) = (((cnt 0 F : Nat) : Int) == 16 || ((cnt 255 F : Nat) : Int) == 16) := by
  rw [Bool.eq_iff_iff, all_smp]
  have e0 : (((cnt 0 F : Nat) : Int) == 16) = true ↔ cnt 0 F = 16 := by rw [beq_iff_eq]; omega
  have e1 : (((cnt 255 F : Nat) : Int) == 16) = true ↔ cnt 255 F = 16 := by rw [beq_iff_eq]; omega
  rw [Bool.or_eq_true, e0, e1, cnt_all 0 F hF, cnt_all 255 F hF]
  constructor
  · intro h
    cases hs : smp F 0 with
    | false =>
      refine .inl (fun i hi => bit_of _ (get_bytes F hF hb i hi).1 (get_bytes F hF hb i hi).2 (fun r hr => ?_))
      have := h i r hi hr
      rw [smp_at F i r hi hr, hs] at this
      have h2 : ¬ (F.getD i 0 / 2 ^ (7 - r) % 2 = 1) := by simpa using this
      omega
    | true =>
      refine .inr (fun i hi => bit_one _ (get_bytes F hF hb i hi).1 (get_bytes F hF hb i hi).2 (fun r hr => ?_))
      have := h i r hi hr
      rw [smp_at F i r hi hr, hs] at this
      simpa using this
  · have h00 : smp F 0 = (F.getD 0 0 / 2 ^ 7 % 2 == 1) := smp_at F 0 0 (by omega) (by omega)
    rintro (h | h) i r hi hr
    · rw [smp_at F i r hi hr, h00, h i hi, h 0 (by omega)]
      simp
    · rw [smp_at F i r hi hr, h00, h i hi, h 0 (by omega)]
      have : ∀ r : Fin 8, ((255 : Int) / 2 ^ (7 - r.val) % 2 == 1) = true := by decide
      rw [this ⟨r, hr⟩]
      rfl
end Go.Proofs.Ytgpjnaabbfalkaa
