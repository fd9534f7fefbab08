/- Plain laws on pads and events, and '==' of pads. -/
import Derived.Test.YtfmgeeeegdpmcaaAll
import Derived.Test.YtfmgeeeegdpmcaaLeaf
namespace Go.Proofs.Ytfmgeeeegdpmcaa
open Go.RowKit Go.Proofs.YtfmgeeeegdpmcaaW.PrintWords Go.Proofs.YtfmgeeeegdpmcaaW.PrintLast Go.Proofs.YtfmgeeeegdpmcaaW.PrintMore Go.Proofs.Ytfmgeeeegdpmcaa.PKeypadMatchesReference

theorem part24 (xs : Array Value) (w : World) : (part 24 xs 0).run Try.prog w = .ok (.agg (xs.extract 0 16)) w := by kernel_rfl
theorem padC_whole {d : List Bool} (h : d.length = 16) : (padC d).extract 0 16 = padC d := by
  apply Array.ext'
  simp only [padC, List.extract_toArray, List.extract_eq_take_drop, List.drop_zero, Nat.sub_zero]
  exact List.take_of_length_le (by simp [h])
theorem eq24 (p q : List Bool) (hp : p.length = 16) (hq : q.length = 16) (w : World) : (Op.equalIn 9999 24 (.agg (padC p)) (.agg (padC q))).run Try.prog w = .ok (p == q) w := by
  have hi : (Try.prog.info? 4).map (·.size) = some 1 := by kernel_rfl
  cases hq5 : Try.prog.info? 4 with
  | none => rw [hq5] at hi; simp at hi
  | some i =>
    exact eqArray Value.bool 9998 p q hp hq Try.underlying24 hq5 (by kernel_rfl) (by kernel_rfl) (fun a b => run_equalIn_bool' w 9997 4 a b Try.underlying4)
theorem eq26 (p q : List Bool) (hp : p.length = 16) (hq : q.length = 16) (w : World) : (Op.equalIn 10000 26 (.agg (padC p)) (.agg (padC q))).run Try.prog w = .ok (p == q) w := by
  refine eqA_of (fs := #[{ name := "Down", type := 24, offset := 0, embedded := false, tag := "", pkgPath := "", byteOffset := 0 }]) Try.underlying26 (by kernel_rfl) ?_
  refine eqf_last rfl (a := .agg (padC p)) (b := .agg (padC q)) ?_ ?_ (eq24 p q hp hq w)
  · have h := part24 (padC p) w
    rw [padC_whole hp] at h
    exact h
  · have h := part24 (padC q) w
    rw [padC_whole hq] at h
    exact h

theorem app_twice (d : List Bool) (k : Int) (b : Bool) : app (app d k b) k b = app d k b := by
  unfold app
  split
  · rw [List.set_set]
  · rfl
theorem app_out (d : List Bool) (k : Int) (b : Bool) (h : ¬ (0 ≤ k ∧ k < 16)) : app d k b = d := by unfold app; rw [if_neg h]
theorem rel_out (d : List Bool) (k : Int) (b : Bool) (h : ¬ (0 ≤ k ∧ k < 16)) : rel d k b = false := by unfold rel; rw [if_neg h]
theorem app_other (d : List Bool) (k : Int) (b : Bool) (j : Nat) (h : (j : Int) ≠ k) : (app d k b).getD j false = d.getD j false := by
  unfold app
  split
  · rw [List.getD_eq_getElem?_getD, List.getElem?_set_ne (by omega), List.getD_eq_getElem?_getD]
  · rfl
theorem app_same (d : List Bool) (hd : d.length = 16) (b : Bool) (j : Nat) (h : j < 16) : (app d (j : Int) b).getD j false = b := by
  unfold app
  rw [if_pos (by omega), Int.toNat_natCast, List.getD_eq_getElem?_getD, List.getElem?_set_self (by omega)]
  rfl
theorem rel_same (d : List Bool) (b : Bool) (j : Nat) (h : j < 16) : rel d (j : Int) b = (d.getD j false && !b) := by
  unfold rel
  rw [if_pos (by omega), Int.toNat_natCast]
theorem rel_twice (d : List Bool) (hd : d.length = 16) (k : Int) (b : Bool) : rel (app d k b) k b = false := by
  by_cases h : 0 ≤ k ∧ k < 16
  · obtain ⟨j, rfl⟩ : ∃ j : Nat, k = (j : Int) := ⟨k.toNat, by omega⟩
    rw [rel_same _ b j (by omega), app_same d hd b j (by omega)]
    cases b <;> rfl
  · rw [rel_out _ _ _ h]
theorem rel_true (d : List Bool) (k : Int) : rel d k true = false := by
  unfold rel
  split
  · simp
  · rfl
end Go.Proofs.Ytfmgeeeegdpmcaa
