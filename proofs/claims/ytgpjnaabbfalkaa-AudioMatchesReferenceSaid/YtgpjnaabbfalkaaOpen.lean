/- From the reading of a slice of bytes that came in to what a walk is told of it. -/
import Derived.WalkKit
import Derived.ProofKit
import Derived.OpenShut
import Derived.Test.YtgpjnaabbfalkaaWMore
namespace Go.Proofs.Ytgpjnaabbfalkaa
open Go.ChangeShapes Go.WideShapes Go.ChangeAt Go.RowKit Go.Proofs.YtgpjnaabbfalkaaW.PrintWords

theorem reads_none {w : World} : Kd.C (Kd.int .u8) w none ([] : List Int).length [] := ⟨rfl, by simp, fun h => absurd h (by simp)⟩
theorem reads_bytes {w : World} {x : Addr} {len cap : Nat} {zs : List Int} (hl : len ≤ cap) (hm : cap ≤ maxLen) (hz : zs.length = cap) (hcell : ∀ i, i < zs.length → w.cell? (x.add i) = some (.int .u8 (zs.getD i 0))) (hw : ∀ n ∈ zs, (Lit.int .u8 n).wf = true) :
    ∃ bs : List Int, len = bs.length ∧ bs.length ≤ cap ∧ Kd.C (Kd.int .u8) w (some x) bs.length bs ∧ ∀ x ∈ bs, 0 ≤ x ∧ x ≤ 255 := by
  have hlen : (zs.take len).length = len := by rw [List.length_take]; omega
  unfold maxLen at hm
  refine ⟨zs.take len, hlen.symm, by omega, ⟨rfl, by omega, fun _ => ⟨x, rfl, fun j p hj => ⟨[.int .u8 p], rfl, rfl, fun i u hu => ?_⟩⟩⟩, fun n hn => ?_⟩
  · cases i with
    | succ i => simp at hu
    | zero =>
      have hu : Value.int .u8 p = u := by simpa using hu
      have hj2 : j < len := by rw [← hlen]; exact (List.getElem?_eq_some_iff.1 hj).1
      have e : j * (Kd.int IntKind.u8).sz + 0 = j := by simp [Kd.int, Kd.scalar]
      rw [e, hcell j (by omega), ← hu]
      rw [List.getElem?_take_of_lt hj2] at hj
      rw [List.getD_eq_getElem?_getD, hj]
      rfl
  · have h := hw n (List.mem_of_mem_take hn)
    exact bounds_u8 h
end Go.Proofs.Ytgpjnaabbfalkaa
