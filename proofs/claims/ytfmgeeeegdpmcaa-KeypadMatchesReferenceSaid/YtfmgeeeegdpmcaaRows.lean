/-
  No cell of these rows narrows 'for every input' (looked for: loops, veiled, ifaces, maps, wideKeys, modest, calm, conditions, laid).
  DERIVED. THE GIVEN ROWS OF THIS SEAT. 4 by the template 'for every input the law returns true; each argument reads behind the call as it read before'; 0 by the template 'total and deterministic' (their statements: YtfmgeeeegdpmcaaTotals.lean).
  GIVEN WITH THE SEED: the statements are not yours to turn. If you find one false, say at which input.
  Laid BY PROGRAM, IN A SANDBOX (cutbox-rows.mjs): the forced cells as the released guide's own fill.sh prints them over the translation aebc0d9993ec7876… (all of the seat's roots in one cut). By AI agents, Wed Nov 11 2026. No macro, syntax, notation, axiom, sorry.
-/
import Derived.Test.YtfmgeeeegdpmcaaChecked
import GoSem.Claim
import GoSem.ClaimJoined
import GoSem.ClaimMapViews
import Derived.JoinedTies
import Derived.KernelRfl
namespace Go.Proofs.Ytfmgeeeegdpmcaa
/- THE CELL 'sum', in the pinned program and in every row, IS THE sha256 OF THE DUMP (.gsa) THAT YtfmgeeeegdpmcaaProg.lean LOADS. Nothing in Lean hashes anything: it is a label: what it is worth is what the hold of that sum in a sandbox is worth. -/
noncomputable def Try.pinned : Pinned := { name := "ytfmgeeeegdpmcaa", sum := "aebc0d9993ec7876197120e6a6847093a66278a86714956c0384e233c61c81fb", checked := Try.checked }
namespace Rows
def none {H : Type} : Left H := { results := [], args := [] }

/-- 'cosmaclaw09.KeypadMatchesReference': WHATEVER THE INPUT: true; the input reads as it did. -/
def keypadMatchesReferenceSpec : ChangeSpec := { name := "keypadMatchesReference", fn := fun _ => fun
  | [d1, d2] => { results := [.lit (.bool true)], args := [d1, d2] }
  | _ => none }
def keypadMatchesReferenceRow : OpenClaim := { program := "ytfmgeeeegdpmcaa", sum := "aebc0d9993ec7876197120e6a6847093a66278a86714956c0384e233c61c81fb", func := "cosmac/cosmaclaw09.KeypadMatchesReference", spec := "keypadMatchesReference", unfollowed := true, recurses := true, apart := false }
def KeypadMatchesReferenceSaid : Prop := keypadMatchesReferenceRow.holds Try.pinned (OpenSpec.ofChange keypadMatchesReferenceSpec)

/-- ITS FALSE NEIGHBOUR: 'it returns false'. Refute it at one input. -/
def keypadMatchesReferenceWrong : ChangeSpec := { name := "keypadMatchesReference", fn := fun _ => fun
  | [d1, d2] => { results := [.lit (.bool false)], args := [d1, d2] }
  | _ => none }
def KeypadMatchesReferenceWrongFalsely : Prop := keypadMatchesReferenceRow.holds Try.pinned (OpenSpec.ofChange keypadMatchesReferenceWrong)

/-- 'cosmaclaw09.KeypadEdges': WHATEVER THE INPUT: true; the input reads as it did. -/
def keypadEdgesSpec : ChangeSpec := { name := "keypadEdges", fn := fun _ => fun
  | [d1, d2] => { results := [.lit (.bool true)], args := [d1, d2] }
  | _ => none }
def keypadEdgesRow : OpenClaim := { program := "ytfmgeeeegdpmcaa", sum := "aebc0d9993ec7876197120e6a6847093a66278a86714956c0384e233c61c81fb", func := "cosmac/cosmaclaw09.KeypadEdges", spec := "keypadEdges", unfollowed := true, recurses := true, apart := false }
def KeypadEdgesSaid : Prop := keypadEdgesRow.holds Try.pinned (OpenSpec.ofChange keypadEdgesSpec)

/-- ITS FALSE NEIGHBOUR: 'it returns false'. Refute it at one input. -/
def keypadEdgesWrong : ChangeSpec := { name := "keypadEdges", fn := fun _ => fun
  | [d1, d2] => { results := [.lit (.bool false)], args := [d1, d2] }
  | _ => none }
def KeypadEdgesWrongFalsely : Prop := keypadEdgesRow.holds Try.pinned (OpenSpec.ofChange keypadEdgesWrong)

/-- 'cosmaclaw09.KeypadSplits': WHATEVER THE INPUT: true; the input reads as it did. -/
def keypadSplitsSpec : ChangeSpec := { name := "keypadSplits", fn := fun _ => fun
  | [d1, d2] => { results := [.lit (.bool true)], args := [d1, d2] }
  | _ => none }
def keypadSplitsRow : OpenClaim := { program := "ytfmgeeeegdpmcaa", sum := "aebc0d9993ec7876197120e6a6847093a66278a86714956c0384e233c61c81fb", func := "cosmac/cosmaclaw09.KeypadSplits", spec := "keypadSplits", unfollowed := true, recurses := true, apart := false }
def KeypadSplitsSaid : Prop := keypadSplitsRow.holds Try.pinned (OpenSpec.ofChange keypadSplitsSpec)

/-- ITS FALSE NEIGHBOUR: 'it returns false'. Refute it at one input. -/
def keypadSplitsWrong : ChangeSpec := { name := "keypadSplits", fn := fun _ => fun
  | [d1, d2] => { results := [.lit (.bool false)], args := [d1, d2] }
  | _ => none }
def KeypadSplitsWrongFalsely : Prop := keypadSplitsRow.holds Try.pinned (OpenSpec.ofChange keypadSplitsWrong)

/-- 'cosmaclaw09.KeypadCounts': WHATEVER THE INPUT: true; the input reads as it did. -/
def keypadCountsSpec : ChangeSpec := { name := "keypadCounts", fn := fun _ => fun
  | [d1, d2] => { results := [.lit (.bool true)], args := [d1, d2] }
  | _ => none }
def keypadCountsRow : OpenClaim := { program := "ytfmgeeeegdpmcaa", sum := "aebc0d9993ec7876197120e6a6847093a66278a86714956c0384e233c61c81fb", func := "cosmac/cosmaclaw09.KeypadCounts", spec := "keypadCounts", unfollowed := true, recurses := true, apart := false }
def KeypadCountsSaid : Prop := keypadCountsRow.holds Try.pinned (OpenSpec.ofChange keypadCountsSpec)

/-- ITS FALSE NEIGHBOUR: 'it returns false'. Refute it at one input. -/
def keypadCountsWrong : ChangeSpec := { name := "keypadCounts", fn := fun _ => fun
  | [d1, d2] => { results := [.lit (.bool false)], args := [d1, d2] }
  | _ => none }
def KeypadCountsWrongFalsely : Prop := keypadCountsRow.holds Try.pinned (OpenSpec.ofChange keypadCountsWrong)

/- THE SECOND FORM. 'bulk': how many values and letters a reading holds, each counted each time it is reached (what is shared counts as often as it is met; a slice's spare places count too). A statement '..UptoSaid' is the law's where the arguments, and the package variables that the reading takes, are together of bulk at most 1048576: NARROWER than '..Said'. Prove '..Said' where nothing that the law and all that it calls make is longer than what came in: it says more and counts as full. Else prove '..UptoSaid'. A law counts once. -/
mutual
def uptoBulk {H : Type} : DataW H → Nat
  | .lit (.string bytes) => bytes.length + 1
  | .lit _ => 1
  | .nil => 1
  | .ptr d => uptoBulk d + 1
  | .slice elems spare => uptoBulkAll elems + uptoBulkAll spare + 1
  | .agg parts => uptoBulkAll parts + 1
  | .iface _ d => uptoBulk d + 1
  | .map entries => uptoBulkEntries entries + 1
  | .held _ => 1
def uptoBulkAll {H : Type} : List (DataW H) → Nat
  | [] => 0
  | d :: r => uptoBulk d + uptoBulkAll r
def uptoBulkEntries {H : Type} : List (Lit × DataW H) → Nat
  | [] => 0
  | x :: r => uptoBulkEntry x + uptoBulkEntries r
def uptoBulkEntry {H : Type} : Lit × DataW H → Nat
  | (.string bytes, d) => bytes.length + uptoBulk d + 1
  | (_, d) => uptoBulk d + 1
 end
def uptoSmall : (H : Type) → List (DataW H) → Bool := fun _ ds => decide (uptoBulkAll ds ≤ 1048576)
def OpenSpec.upto (s : _root_.Go.ChangeSpec) : _root_.Go.OpenSpec := { _root_.Go.OpenSpec.ofChange s with cond := some uptoSmall }

/-- 'cosmaclaw09.KeypadMatchesReference', WHERE WHAT IT READS IS OF BULK AT MOST 1048576: true; the input reads as it did. -/
def keypadMatchesReferenceUptoRow : OpenClaim := { program := "ytfmgeeeegdpmcaa", sum := "aebc0d9993ec7876197120e6a6847093a66278a86714956c0384e233c61c81fb", func := "cosmac/cosmaclaw09.KeypadMatchesReference", spec := "keypadMatchesReference", unfollowed := true, recurses := true, apart := false, narrowed := true }
def KeypadMatchesReferenceUptoSaid : Prop := keypadMatchesReferenceUptoRow.holds Try.pinned (OpenSpec.upto keypadMatchesReferenceSpec)

/-- 'cosmaclaw09.KeypadEdges', WHERE WHAT IT READS IS OF BULK AT MOST 1048576: true; the input reads as it did. -/
def keypadEdgesUptoRow : OpenClaim := { program := "ytfmgeeeegdpmcaa", sum := "aebc0d9993ec7876197120e6a6847093a66278a86714956c0384e233c61c81fb", func := "cosmac/cosmaclaw09.KeypadEdges", spec := "keypadEdges", unfollowed := true, recurses := true, apart := false, narrowed := true }
def KeypadEdgesUptoSaid : Prop := keypadEdgesUptoRow.holds Try.pinned (OpenSpec.upto keypadEdgesSpec)

/-- 'cosmaclaw09.KeypadSplits', WHERE WHAT IT READS IS OF BULK AT MOST 1048576: true; the input reads as it did. -/
def keypadSplitsUptoRow : OpenClaim := { program := "ytfmgeeeegdpmcaa", sum := "aebc0d9993ec7876197120e6a6847093a66278a86714956c0384e233c61c81fb", func := "cosmac/cosmaclaw09.KeypadSplits", spec := "keypadSplits", unfollowed := true, recurses := true, apart := false, narrowed := true }
def KeypadSplitsUptoSaid : Prop := keypadSplitsUptoRow.holds Try.pinned (OpenSpec.upto keypadSplitsSpec)

/-- 'cosmaclaw09.KeypadCounts', WHERE WHAT IT READS IS OF BULK AT MOST 1048576: true; the input reads as it did. -/
def keypadCountsUptoRow : OpenClaim := { program := "ytfmgeeeegdpmcaa", sum := "aebc0d9993ec7876197120e6a6847093a66278a86714956c0384e233c61c81fb", func := "cosmac/cosmaclaw09.KeypadCounts", spec := "keypadCounts", unfollowed := true, recurses := true, apart := false, narrowed := true }
def KeypadCountsUptoSaid : Prop := keypadCountsUptoRow.holds Try.pinned (OpenSpec.upto keypadCountsSpec)

end Rows
end Go.Proofs.Ytfmgeeeegdpmcaa
