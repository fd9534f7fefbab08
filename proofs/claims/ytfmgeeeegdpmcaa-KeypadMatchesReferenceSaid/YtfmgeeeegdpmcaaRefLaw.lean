/- Plain laws: the reference implementation's Down, Release and Releases, and the fold over a list's parts. -/
import Derived.Test.YtfmgeeeegdpmcaaLaw
namespace Go.Proofs.Ytfmgeeeegdpmcaa
open Go.RowKit Go.Proofs.YtfmgeeeegdpmcaaW.PrintWords Go.Proofs.YtfmgeeeegdpmcaaW.PrintLast Go.Proofs.YtfmgeeeegdpmcaaW.PrintMore Go.Proofs.Ytfmgeeeegdpmcaa.PKeypadMatchesReference

theorem snoc_induction {α : Type} {motive : List α → Prop} (nil : motive []) (snoc : ∀ l e, motive l → motive (l ++ [e])) (l : List α) : motive l := by
  have h : ∀ (r : List α), motive r.reverse := by
    intro r
    induction r with
    | nil => exact nil
    | cons e r ih => rw [List.reverse_cons]; exact snoc _ _ ih
  have := h l.reverse
  rwa [List.reverse_reverse] at this

theorem one_eq (d : List Bool) (xs : List Int) (e : S30) : one (d, xs) e = (app d e.f0 e.f1, xs ++ (if rel d e.f0 e.f1 = true then [e.f0] else [])) := by
  unfold one
  dsimp only
  split
  · rfl
  · simp
theorem fold_acc (l : List S30) : ∀ (d : List Bool) (xs : List Int), l.foldl one (d, xs) = ((l.foldl one (d, [])).1, xs ++ (l.foldl one (d, [])).2) := by
  induction l with
  | nil => intro d xs; simp
  | cons e l ih =>
    intro d xs
    rw [List.foldl_cons, List.foldl_cons, one_eq, one_eq, ih, ih (app d e.f0 e.f1) ([] ++ _)]
    simp
theorem st_all (d : List Bool) (l : List S30) : st d l l.length = l.foldl one (d, []) := by unfold st; rw [List.take_length]
theorem numbers_loop (xs : List Int) (hx : xs.length ≤ 9223372036854775807) (d : Nat) : ∀ (k i : Nat), xs.length - i = d → i ≤ xs.length → d < k → cosmacref03_Numbers.l0 k xs xs (i : Int) = some true := by
  induction d with
  | zero =>
    intro k i h1 h2 hk
    obtain ⟨k, rfl⟩ : ∃ m, k = m + 1 := ⟨k - 1, by omega⟩
    simp only [cosmacref03_Numbers.l0]
    rw [if_neg (by omega)]
  | succ d ih =>
    intro k i h1 h2 hk
    obtain ⟨k, rfl⟩ : ∃ m, k = m + 1 := ⟨k - 1, by omega⟩
    have q1 : (i : Int) < (xs.length : Int) := by omega
    have q2 : 0 ≤ (i : Int) := by omega
    have hw : wrap64 ((i : Int) + 1) = ((i + 1 : Nat) : Int) := by unfold wrap64; omega
    simp only [cosmacref03_Numbers.l0]
    rw [if_pos q1, if_pos q2]
    simp only [q1, if_true, hw]
    exact ih k (i + 1) (by omega) (by omega) (by omega)
theorem numbers_tells (xs : List Int) (hx : xs.length ≤ 9223372036854775807) : cosmacref03_Numbers.f (xs.length + 1) xs xs = some true := by
  unfold cosmacref03_Numbers.f
  rw [if_pos rfl]
  exact numbers_loop xs hx xs.length (xs.length + 1) 0 (by omega) (by omega) (by omega)

/-- IS KEY k DOWN after these events? The last event that names it tells. -/
def dn (l : List S30) (k : Int) : Bool := l.foldl (fun x e => if e.f0 = k then e.f1 && decide (0 ≤ k) && decide (k ≤ 15) else x) false
theorem dn_snoc (l : List S30) (e : S30) (k : Int) : dn (l ++ [e]) k = if e.f0 = k then e.f1 && decide (0 ≤ k) && decide (k ≤ 15) else dn l k := by
  unfold dn
  rw [List.foldl_append]
  rfl
theorem dn_pad (l : List S30) : ∀ (n : Nat), n < 16 → (l.foldl one (none16, [])).1.getD n false = dn l (n : Int) := by
  induction l using snoc_induction with
  | nil =>
    intro n hn
    show none16.getD n false = false
    unfold none16
    rw [List.getD_eq_getElem?_getD, List.getElem?_replicate]
    split <;> rfl
  | snoc l e ih =>
    intro n hn
    rw [List.foldl_append, dn_snoc]
    show (app (l.foldl one (none16, [])).1 e.f0 e.f1).getD n false = _
    by_cases h : e.f0 = (n : Int)
    · rw [if_pos h, h, app_same _ (fold_length l _ none16_length) _ n hn]
      have h1 : decide (0 ≤ (n : Int)) = true := decide_eq_true (by omega)
      have h2 : decide ((n : Int) ≤ 15) = true := decide_eq_true (by omega)
      rw [h1, h2]
      simp
    · rw [if_neg h, app_other _ _ _ n (fun h2 => h h2.symm)]
      exact ih n hn
theorem dn_out (l : List S30) (k : Int) (h : ¬ (0 ≤ k ∧ k < 16)) : dn l k = false := by
  induction l using snoc_induction with
  | nil => rfl
  | snoc l e ih =>
    rw [dn_snoc]
    split
    · by_cases h0 : 0 ≤ k
      · have : decide (k ≤ 15) = false := decide_eq_false (by omega)
        rw [this]
        simp
      · have : decide (0 ≤ k) = false := decide_eq_false h0
        rw [this]
        simp
    · exact ih
/-- A RELEASE, as the law's reference tells it. -/
theorem rel_dn (l : List S30) (k : Int) (b : Bool) : rel (l.foldl one (none16, [])).1 k b = (dn l k && !b) := by
  by_cases h : 0 ≤ k ∧ k < 16
  · obtain ⟨n, rfl⟩ : ∃ n : Nat, k = (n : Int) := ⟨k.toNat, by omega⟩
    rw [rel_same _ _ n (by omega), dn_pad l n (by omega)]
  · rw [rel_out _ _ _ h, dn_out l k h]
    rfl
theorem down_loop (k : Int) (l : List S30) : ∀ (r : List S30) (f : Nat), (l ++ r).length ≤ 1000000 → l.length < f → cosmacref09_Down.l0 f (l ++ r) k (wrap64 ((l.length : Int) - 1)) = some (dn l k) := by
  induction l using snoc_induction with
  | nil =>
    intro r f _ hf
    obtain ⟨f, rfl⟩ : ∃ q, f = q + 1 := ⟨f - 1, by omega⟩
    simp only [cosmacref09_Down.l0]
    rw [if_neg (by unfold wrap64; simp)]
    rfl
  | snoc l e ih =>
    intro r f hl hf
    obtain ⟨f, rfl⟩ : ∃ q, f = q + 1 := ⟨f - 1, by omega⟩
    have e1 : l ++ [e] ++ r = l ++ ([e] ++ r) := List.append_assoc _ _ _
    have hl2 : (l ++ [e] ++ r).length = l.length + 1 + r.length := by simp; omega
    have hl3 : (l ++ [e]).length = l.length + 1 := by simp
    rw [hl2] at hl
    have hw : wrap64 (((l ++ [e]).length : Int) - 1) = (l.length : Int) := by rw [hl3]; unfold wrap64; omega
    have hrd : rd_T30 (l ++ [e] ++ r) (l.length : Int) = e := by
      unfold rd_T30
      rw [Int.toNat_natCast, List.getD_eq_getElem?_getD, e1, List.getElem?_append_right (Nat.le_refl _)]
      simp
    rw [hw]
    simp only [cosmacref09_Down.l0]
    rw [if_pos (by omega), if_pos (by omega), if_pos (by rw [hl2]; omega), hrd, dn_snoc]
    by_cases h : e.f0 = k
    · rw [if_pos h, if_pos h]
      cases e.f1 with
      | true =>
        rw [if_pos rfl]
        by_cases h0 : 0 ≤ k
        · rw [if_pos h0, decide_eq_true h0]
          simp
        · rw [if_neg h0, decide_eq_false h0]
          simp
      | false => simp
    · rw [if_neg h, if_neg h, e1]
      exact ih ([e] ++ r) f (by simp; omega) (by rw [hl3] at hf; omega)
theorem down_tells (l : List S30) (k : Int) (h : l.length ≤ 1000000) (f : Nat) (hf : l.length < f) : cosmacref09_Down.f f l k = some (dn l k) := by
  have := down_loop k l [] f (by simpa using h) hf
  rw [List.append_nil] at this
  exact this
theorem release_tells (l : List S30) (k : Int) (b : Bool) (h : l.length ≤ 1000000) (f : Nat) (hf : l.length < f) : cosmacref09_Release.f f l k b = some (dn l k && !b) := by
  unfold cosmacref09_Release.f
  rw [down_tells l k h f hf, Option.bind_some]
  cases dn l k <;> rfl
theorem releases_loop (l : List S30) (h : l.length ≤ 1000) (d : Nat) : ∀ (i f : Nat) (xs : List Int), l.length - i = d → i ≤ l.length → xs.length ≤ i → l.length + d + 1 < f →
    cosmacref09_Releases.l0 f l xs (i : Int) = some (xs ++ ((l.drop i).foldl one ((l.take i).foldl one (none16, []) |>.1, [])).2) := by
  induction d with
  | zero =>
    intro i f xs h1 h2 h3 hf
    obtain ⟨f, rfl⟩ : ∃ q, f = q + 1 := ⟨f - 1, by omega⟩
    obtain rfl : i = l.length := by omega
    simp only [cosmacref09_Releases.l0]
    rw [if_neg (by omega), List.drop_length]
    simp
  | succ d ih =>
    intro i f xs h1 h2 h3 hf
    obtain ⟨f, rfl⟩ : ∃ q, f = q + 1 := ⟨f - 1, by omega⟩
    have hi : i < l.length := by omega
    have ht : (l.take i).length = i := by rw [List.length_take]; omega
    have hw : wrap64 ((i : Int) + 1) = ((i + 1 : Nat) : Int) := by unfold wrap64; omega
    have hrd : rd_T30 l (i : Int) = l[i] := by
      unfold rd_T30
      rw [Int.toNat_natCast, List.getD_eq_getElem?_getD, List.getElem?_eq_getElem hi]
      rfl
    simp only [cosmacref09_Releases.l0]
    rw [if_pos (by omega), if_pos (by omega), if_pos (by omega), Int.toNat_natCast, hrd, release_tells (l.take i) _ _ (by omega) f (by omega), Option.bind_some, hw]
    rw [List.drop_eq_getElem_cons hi, List.foldl_cons]
    have hT : (l.take (i + 1)).foldl one (none16, []) = one ((l.take i).foldl one (none16, [])) l[i] := by rw [List.take_succ_eq_append_getElem hi, List.foldl_append]; rfl
    have hT1 : ((l.take (i + 1)).foldl one (none16, [])).1 = app ((l.take i).foldl one (none16, [])).1 l[i].f0 l[i].f1 := by rw [hT]; rfl
    have hone : one (((l.take i).foldl one (none16, [])).1, []) l[i] = (app ((l.take i).foldl one (none16, [])).1 l[i].f0 l[i].f1, if rel ((l.take i).foldl one (none16, [])).1 l[i].f0 l[i].f1 = true then [l[i].f0] else []) := by
      unfold one
      simp
    rw [hone, rel_dn, fold_acc, ← hT1]
    by_cases hd : (dn (l.take i) l[i].f0 && !l[i].f1) = true
    · rw [if_pos hd, if_pos hd, if_pos (by omega), ih (i + 1) f (xs ++ [l[i].f0]) (by omega) (by omega) (by simp; omega) (by omega)]
      simp
    · rw [if_neg hd, if_neg hd, ih (i + 1) f xs (by omega) (by omega) (by omega) (by omega)]
      simp
theorem releases_tells (l : List S30) (h : l.length ≤ 1000) (m : Nat) (hm : m ≤ l.length) : cosmacref09_Releases.f (2 * l.length + 2) l (m : Int) = some ((l.drop m).foldl one (((l.take m).foldl one (none16, [])).1, [])).2 := by
  unfold cosmacref09_Releases.f
  have := releases_loop l h (l.length - m) m (2 * l.length + 2) [] rfl hm (by simp) (by omega)
  simpa using this
/-- ALL OF A LIST IS ALL OF ITS BEGIN, THEN ALL OF ITS REST. -/
theorem splits_law (l : List S30) (m : Nat) (hm : m ≤ l.length) :
    (st none16 l l.length).1 = (st (st none16 (l.take m) (l.take m).length).1 (l.drop m) (l.drop m).length).1 ∧ (st none16 l l.length).2 = (st none16 (l.take m) (l.take m).length).2 ++ (st (st none16 (l.take m) (l.take m).length).1 (l.drop m) (l.drop m).length).2 ∧
    ((st none16 (l.take m) (l.take m).length).2 ++ (st (st none16 (l.take m) (l.take m).length).1 (l.drop m) (l.drop m).length).2).length ≤ l.length ∧ (st none16 (l.take m) (l.take m).length).2.length ≤ l.length ∧
    (l.length ≤ 1000 → cosmacref09_Releases.f (2 * l.length + 2) l (m : Int) = some (st (st none16 (l.take m) (l.take m).length).1 (l.drop m) (l.drop m).length).2) := by
  have h0 : l.foldl one (none16, []) = (l.drop m).foldl one ((l.take m).foldl one (none16, [])) := by rw [← List.foldl_append, List.take_append_drop]
  have h1 : st none16 l l.length = (((l.drop m).foldl one (((l.take m).foldl one (none16, [])).1, [])).1, ((l.take m).foldl one (none16, [])).2 ++ ((l.drop m).foldl one (((l.take m).foldl one (none16, [])).1, [])).2) := by
    rw [st_all, h0]
    exact fold_acc (l.drop m) _ _
  have hs := st_short none16 l l.length
  rw [h1] at hs
  rw [h1, st_all, st_all]
  refine ⟨rfl, rfl, hs, ?_, fun h => releases_tells l h m hm⟩
  rw [List.length_append] at hs
  omega
end Go.Proofs.Ytfmgeeeegdpmcaa
