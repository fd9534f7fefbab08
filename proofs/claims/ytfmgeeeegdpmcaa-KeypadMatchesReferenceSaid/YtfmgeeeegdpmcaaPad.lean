/- The pad's state: plain words, and its cells. -/
import Derived.Test.YtfmgeeeegdpmcaaGround
import Derived.Test.YtfmgeeeegdpmcaaPKeypadMatchesReferencex1
import Derived.Lib.Hide
import Derived.Laws.CopyOwn
import Derived.OwnWalkIn
import Derived.WalkSpells
import Derived.IntWalk
namespace Go.Proofs.Ytfmgeeeegdpmcaa
open Go.RowKit Go.Proofs.YtfmgeeeegdpmcaaW.PrintWords Go.Proofs.YtfmgeeeegdpmcaaW.PrintLast Go.Proofs.YtfmgeeeegdpmcaaW.PrintMore Go.Proofs.Ytfmgeeeegdpmcaa.PKeypadMatchesReference

/-- THE CELLS OF A PAD. -/
def padC (d : List Bool) : Array Value := (d.map Value.bool).toArray
theorem padC_size {d : List Bool} (h : d.length = 16) : (padC d).size = 16 := by simp [padC, h]
theorem padC_one (d : List Bool) : (padC d).all (·.oneCell') = true := by simp [padC, Value.oneCell']
theorem padC_get {d : List Bool} (h : d.length = 16) (i : Nat) (hi : i < 16) : (padC d)[i]? = some (Value.bool (d.getD i false)) := by
  simp [padC, h, hi, List.getD_eq_getElem?_getD]
theorem padC_set (d : List Bool) (i : Nat) (b : Bool) : (padC d).setIfInBounds i (Value.bool b) = padC (d.set i b) := by
  apply Array.ext'
  simp [padC, List.map_set]
theorem info26 : (Try.prog.info? 26).map (·.size) = some 16 := by kernel_rfl
theorem info30s : (Try.prog.info? 30).map (·.size) = some 2 := by kernel_rfl
def none16 : List Bool := List.replicate 16 false
theorem none16_length : none16.length = 16 := rfl
/-- AN EVENT, applied to a pad. -/
def app (d : List Bool) (k : Int) (b : Bool) : List Bool := if 0 ≤ k ∧ k < 16 then d.set k.toNat b else d
/-- IS IT A RELEASE? -/
def rel (d : List Bool) (k : Int) (b : Bool) : Bool := if 0 ≤ k ∧ k < 16 then d.getD k.toNat false && !b else false
theorem no26 : ∀ q, q ∈ 3 :: (Kd.int IntKind.i64).E → q ≠ 26 := by intro q hq; simp [Kd.int, Kd.scalar] at hq; omega
theorem no32 : ∀ q, q ∈ 3 :: (Kd.int IntKind.i64).E → q ≠ 32 := by intro q hq; simp [Kd.int, Kd.scalar] at hq; omega
theorem R_setRow {α : Type} {d : Kd α} {e : Nat} {w : World} {base : Nat} {ok : Nat → Prop} {v : Value} {xs : List α} (h : d.R e w base ok v xs) {g t : Nat} {cells : Array Value} (hb : w.heap[g]? = some (.cells cells t (0, 0))) (ht : ∀ q, q ∈ e :: d.E → q ≠ t) (cs : Array Value) :
    d.R e (w.setRow g cs) base ok v xs := Kd.R_mono (Kd.R_step (Kd.R_types h hb ht) (fun k hk _ => setRow_other w g k cs hk.2)) (fun _ hk => hk.1)
theorem app_length {d : List Bool} (h : d.length = 16) (k : Int) (b : Bool) : (app d k b).length = 16 := by
  unfold app
  split
  · simpa using h
  · exact h
end Go.Proofs.Ytfmgeeeegdpmcaa
