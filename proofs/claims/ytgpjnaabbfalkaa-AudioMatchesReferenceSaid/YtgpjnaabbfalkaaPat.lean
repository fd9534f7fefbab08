/- Plain laws on patterns as arrays, and that the samples determine the pattern. -/
import Derived.Test.YtgpjnaabbfalkaaGround
import Derived.Test.YtgpjnaabbfalkaaSilentFact
namespace Go.Proofs.Ytgpjnaabbfalkaa
open Go.RowKit Go.Proofs.YtgpjnaabbfalkaaW.PrintWords Go.Proofs.YtgpjnaabbfalkaaW.PrintLast Go.Proofs.YtgpjnaabbfalkaaW.PrintMore

/-- The pattern alone, as cells. -/
def pat (F : List Int) : Array Value := (F.map (Value.int .u8)).toArray
theorem pat_size {F : List Int} (h : F.length = 16) : (pat F).size = 16 := by simp [pat, h]
theorem pat_in {F : List Int} (q : Int) (i : Nat) (v : Value) (h : (pat F)[i]? = some v) : (auC F q)[i]? = some v := by
  simp only [pat, List.getElem?_toArray, List.getElem?_map] at h
  have hi : i < F.length := by
    obtain ⟨x, hx, _⟩ := Option.map_eq_some_iff.1 h
    exact (List.getElem?_eq_some_iff.1 hx).1
  simp only [auC, List.getElem?_toArray]
  rw [List.getElem?_append_left (by simpa using hi), List.getElem?_map]
  exact h

theorem eq24 (p q : List Int) (hp : p.length = 16) (hq : q.length = 16) (w : World) : (Op.equalIn 10000 24 (.agg (pat p)) (.agg (pat q))).run Try.prog w = .ok (p == q) w := by
  have hi : (Try.prog.info? 5).map (·.size) = some 1 := info5
  cases hq5 : Try.prog.info? 5 with
  | none => rw [hq5] at hi; simp at hi
  | some i =>
    exact eqArray (Value.int .u8) 9999 p q hp hq Try.underlying24 hq5 (by kernel_rfl) (by kernel_rfl) (fun a b => run_equalIn_int w 9998 5 .u8 .u8 a b Try.underlying5)

theorem bits_eq (u v : Int) (hu : 0 ≤ u ∧ u ≤ 255) (hv : 0 ≤ v ∧ v ≤ 255) (h : ∀ r : Nat, r < 8 → (u / 2 ^ (7 - r) % 2 == 1) = (v / 2 ^ (7 - r) % 2 == 1)) : u = v := by
  have h2 : ∀ r : Nat, r < 8 → u / 2 ^ (7 - r) % 2 = v / 2 ^ (7 - r) % 2 := by
    intro r hr
    have := h r hr
    rw [Bool.eq_iff_iff, beq_iff_eq, beq_iff_eq] at this
    omega
  clear h
  have a0 := h2 0 (by omega)
  have a1 := h2 1 (by omega)
  have a2 := h2 2 (by omega)
  have a3 := h2 3 (by omega)
  have a4 := h2 4 (by omega)
  have a5 := h2 5 (by omega)
  have a6 := h2 6 (by omega)
  have a7 := h2 7 (by omega)
  clear h2
  simp only [Nat.sub_zero, Nat.reduceSub, Int.reducePow] at a0 a1 a2 a3 a4 a5 a6 a7
  omega

/-- The first k samples of two patterns are equal. -/
def same (F G : List Int) (k : Nat) : Bool := (List.range k).all fun j => smp F (j : Int) == smp G (j : Int)
theorem same_succ (F G : List Int) (k : Nat) : same F G (k + 1) = (same F G k && smp F (k : Int) == smp G (k : Int)) := by
  simp [same, List.range_succ]
/-- DIFFERENT PATTERNS HAVE DIFFERENT SAMPLES. -/
theorem same_law (F G : List Int) (hF : F.length = 16) (hG : G.length = 16) (bF : ∀ x ∈ F, 0 ≤ x ∧ x ≤ 255) (bG : ∀ x ∈ G, 0 ≤ x ∧ x ≤ 255) : same F G 128 = (F == G) := by
  rw [Bool.eq_iff_iff, beq_iff_eq]
  constructor
  · intro h
    have h := List.all_eq_true.1 h
    refine List.ext_getElem (hF.trans hG.symm) (fun i h1 h2 => ?_)
    have e1 : F.getD i 0 = F[i] := by rw [List.getD_eq_getElem?_getD, List.getElem?_eq_getElem h1]; rfl
    have e2 : G.getD i 0 = G[i] := by rw [List.getD_eq_getElem?_getD, List.getElem?_eq_getElem h2]; rfl
    rw [← e1, ← e2]
    refine bits_eq _ _ (get_bytes F hF bF i (by omega)) (get_bytes G hG bG i (by omega)) (fun r hr => ?_)
    have := h (8 * i + r) (List.mem_range.2 (by omega))
    rw [beq_iff_eq, smp_at F i r (by omega) hr, smp_at G i r (by omega) hr] at this
    exact this
  · rintro rfl
    exact List.all_eq_true.2 (fun j _ => by simp)
theorem smp_add (F : List Int) (n : Int) : smp F (n + 128) = smp F n := by
  unfold smp
  rw [show (n + 128) % 128 = n % 128 by omega]
theorem smp_sub (F : List Int) (n : Int) : smp F (n - 256) = smp F n := by
  unfold smp
  rw [show (n - 256) % 128 = n % 128 by omega]
end Go.Proofs.Ytgpjnaabbfalkaa
