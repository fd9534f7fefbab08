/-
  No cell of these rows narrows 'for every input' (looked for: loops, veiled, ifaces, maps, wideKeys, modest, calm, conditions, laid).
  DERIVED. THE GIVEN ROWS OF THIS SEAT. 4 by the template 'for every input the law returns true; each argument reads behind the call as it read before'; 0 by the template 'total and deterministic' (their statements: YtpccokimjmmmoaaTotals.lean).
  GIVEN WITH THE SEED: the statements are not yours to turn. If you find one false, say at which input.
  Laid BY PROGRAM, IN A SANDBOX (cutbox-rows.mjs): the forced cells as the released guide's own fill.sh prints them over the translation 95b292aef2baf6d3… (all of the seat's roots in one cut). By AI agents, Wed Nov 11 2026. No macro, syntax, notation, axiom, sorry.
-/
import Derived.Test.YtpccokimjmmmoaaChecked
import GoSem.Claim
import GoSem.ClaimJoined
import GoSem.ClaimMapViews
import Derived.JoinedTies
import Derived.KernelRfl
namespace Go.Proofs.Ytpccokimjmmmoaa
/- THE CELL 'sum', in the pinned program and in every row, IS THE sha256 OF THE DUMP (.gsa) THAT YtpccokimjmmmoaaProg.lean LOADS. Nothing in Lean hashes anything: it is a label: what it is worth is what the hold of that sum in a sandbox is worth. -/
noncomputable def Try.pinned : Pinned := { name := "ytpccokimjmmmoaa", sum := "95b292aef2baf6d3382a11bf778c39b0cc768c9f3195cfcb3c45a418cbb813aa", checked := Try.checked }
namespace Rows
def none {H : Type} : Left H := { results := [], args := [] }

/-- 'cosmaclaw03.AddrMatchesReference': WHATEVER THE INPUT: true; the input reads as it did. -/
def addrMatchesReferenceSpec : ChangeSpec := { name := "addrMatchesReference", fn := fun _ => fun
  | [d1, d2, d3, d4, d5] => { results := [.lit (.bool true)], args := [d1, d2, d3, d4, d5] }
  | _ => none }
def addrMatchesReferenceRow : OpenClaim := { program := "ytpccokimjmmmoaa", sum := "95b292aef2baf6d3382a11bf778c39b0cc768c9f3195cfcb3c45a418cbb813aa", func := "cosmac/cosmaclaw03.AddrMatchesReference", spec := "addrMatchesReference", unfollowed := true, recurses := true, apart := false }
def AddrMatchesReferenceSaid : Prop := addrMatchesReferenceRow.holds Try.pinned (OpenSpec.ofChange addrMatchesReferenceSpec)

/-- ITS FALSE NEIGHBOUR: 'it returns false'. Refute it at one input. -/
def addrMatchesReferenceWrong : ChangeSpec := { name := "addrMatchesReference", fn := fun _ => fun
  | [d1, d2, d3, d4, d5] => { results := [.lit (.bool false)], args := [d1, d2, d3, d4, d5] }
  | _ => none }
def AddrMatchesReferenceWrongFalsely : Prop := addrMatchesReferenceRow.holds Try.pinned (OpenSpec.ofChange addrMatchesReferenceWrong)

/-- 'cosmaclaw03.AddrOverlap': WHATEVER THE INPUT: true; the input reads as it did. -/
def addrOverlapSpec : ChangeSpec := { name := "addrOverlap", fn := fun _ => fun
  | [d1, d2, d3, d4] => { results := [.lit (.bool true)], args := [d1, d2, d3, d4] }
  | _ => none }
def addrOverlapRow : OpenClaim := { program := "ytpccokimjmmmoaa", sum := "95b292aef2baf6d3382a11bf778c39b0cc768c9f3195cfcb3c45a418cbb813aa", func := "cosmac/cosmaclaw03.AddrOverlap", spec := "addrOverlap", unfollowed := true, recurses := true, apart := false }
def AddrOverlapSaid : Prop := addrOverlapRow.holds Try.pinned (OpenSpec.ofChange addrOverlapSpec)

/-- ITS FALSE NEIGHBOUR: 'it returns false'. Refute it at one input. -/
def addrOverlapWrong : ChangeSpec := { name := "addrOverlap", fn := fun _ => fun
  | [d1, d2, d3, d4] => { results := [.lit (.bool false)], args := [d1, d2, d3, d4] }
  | _ => none }
def AddrOverlapWrongFalsely : Prop := addrOverlapRow.holds Try.pinned (OpenSpec.ofChange addrOverlapWrong)

/-- 'cosmaclaw03.AddrMoves': WHATEVER THE INPUT: true; the input reads as it did. -/
def addrMovesSpec : ChangeSpec := { name := "addrMoves", fn := fun _ => fun
  | [d1, d2, d3, d4, d5] => { results := [.lit (.bool true)], args := [d1, d2, d3, d4, d5] }
  | _ => none }
def addrMovesRow : OpenClaim := { program := "ytpccokimjmmmoaa", sum := "95b292aef2baf6d3382a11bf778c39b0cc768c9f3195cfcb3c45a418cbb813aa", func := "cosmac/cosmaclaw03.AddrMoves", spec := "addrMoves", unfollowed := true, recurses := true, apart := false }
def AddrMovesSaid : Prop := addrMovesRow.holds Try.pinned (OpenSpec.ofChange addrMovesSpec)

/-- ITS FALSE NEIGHBOUR: 'it returns false'. Refute it at one input. -/
def addrMovesWrong : ChangeSpec := { name := "addrMoves", fn := fun _ => fun
  | [d1, d2, d3, d4, d5] => { results := [.lit (.bool false)], args := [d1, d2, d3, d4, d5] }
  | _ => none }
def AddrMovesWrongFalsely : Prop := addrMovesRow.holds Try.pinned (OpenSpec.ofChange addrMovesWrong)

/-- 'cosmaclaw03.AddrLists': WHATEVER THE INPUT: true; the input reads as it did. -/
def addrListsSpec : ChangeSpec := { name := "addrLists", fn := fun _ => fun
  | [d1, d2] => { results := [.lit (.bool true)], args := [d1, d2] }
  | _ => none }
def addrListsRow : OpenClaim := { program := "ytpccokimjmmmoaa", sum := "95b292aef2baf6d3382a11bf778c39b0cc768c9f3195cfcb3c45a418cbb813aa", func := "cosmac/cosmaclaw03.AddrLists", spec := "addrLists", unfollowed := true, recurses := true, apart := false }
def AddrListsSaid : Prop := addrListsRow.holds Try.pinned (OpenSpec.ofChange addrListsSpec)

/-- ITS FALSE NEIGHBOUR: 'it returns false'. Refute it at one input. -/
def addrListsWrong : ChangeSpec := { name := "addrLists", fn := fun _ => fun
  | [d1, d2] => { results := [.lit (.bool false)], args := [d1, d2] }
  | _ => none }
def AddrListsWrongFalsely : Prop := addrListsRow.holds Try.pinned (OpenSpec.ofChange addrListsWrong)

/- THE SECOND FORM. 'bulk': how many values and letters a reading holds, each counted each time it is reached (what is shared counts as often as it is met; a slice's spare places count too). A statement '..UptoSaid' is the law's where the arguments, and the package variables that the reading takes, are together of bulk at most 1048576: NARROWER than '..Said'. Prove '..Said' where nothing that the law and all that it calls make is longer than what came in: it says more and counts as full. Else prove '..UptoSaid'. A law counts once. -/
mutual
def uptoBulk {H : Type} : DataW H → Nat
  | .lit (.string bytes) => bytes.length + 1
  | .lit _ => 1
  | .nil => 1
  | .ptr d => uptoBulk d + 1
  | .slice elems spare => uptoBulkAll elems + uptoBulkAll spare + 1
  | .agg parts => uptoBulkAll parts + 1
  | .iface _ d => uptoBulk d + 1
  | .map entries => uptoBulkEntries entries + 1
  | .held _ => 1
def uptoBulkAll {H : Type} : List (DataW H) → Nat
  | [] => 0
  | d :: r => uptoBulk d + uptoBulkAll r
def uptoBulkEntries {H : Type} : List (Lit × DataW H) → Nat
  | [] => 0
  | x :: r => uptoBulkEntry x + uptoBulkEntries r
def uptoBulkEntry {H : Type} : Lit × DataW H → Nat
  | (.string bytes, d) => bytes.length + uptoBulk d + 1
  | (_, d) => uptoBulk d + 1
 end
def uptoSmall : (H : Type) → List (DataW H) → Bool := fun _ ds => decide (uptoBulkAll ds ≤ 1048576)
def OpenSpec.upto (s : _root_.Go.ChangeSpec) : _root_.Go.OpenSpec := { _root_.Go.OpenSpec.ofChange s with cond := some uptoSmall }

/-- 'cosmaclaw03.AddrMatchesReference', WHERE WHAT IT READS IS OF BULK AT MOST 1048576: true; the input reads as it did. -/
def addrMatchesReferenceUptoRow : OpenClaim := { program := "ytpccokimjmmmoaa", sum := "95b292aef2baf6d3382a11bf778c39b0cc768c9f3195cfcb3c45a418cbb813aa", func := "cosmac/cosmaclaw03.AddrMatchesReference", spec := "addrMatchesReference", unfollowed := true, recurses := true, apart := false, narrowed := true }
def AddrMatchesReferenceUptoSaid : Prop := addrMatchesReferenceUptoRow.holds Try.pinned (OpenSpec.upto addrMatchesReferenceSpec)

/-- 'cosmaclaw03.AddrOverlap', WHERE WHAT IT READS IS OF BULK AT MOST 1048576: true; the input reads as it did. -/
def addrOverlapUptoRow : OpenClaim := { program := "ytpccokimjmmmoaa", sum := "95b292aef2baf6d3382a11bf778c39b0cc768c9f3195cfcb3c45a418cbb813aa", func := "cosmac/cosmaclaw03.AddrOverlap", spec := "addrOverlap", unfollowed := true, recurses := true, apart := false, narrowed := true }
def AddrOverlapUptoSaid : Prop := addrOverlapUptoRow.holds Try.pinned (OpenSpec.upto addrOverlapSpec)

/-- 'cosmaclaw03.AddrMoves', WHERE WHAT IT READS IS OF BULK AT MOST 1048576: true; the input reads as it did. -/
def addrMovesUptoRow : OpenClaim := { program := "ytpccokimjmmmoaa", sum := "95b292aef2baf6d3382a11bf778c39b0cc768c9f3195cfcb3c45a418cbb813aa", func := "cosmac/cosmaclaw03.AddrMoves", spec := "addrMoves", unfollowed := true, recurses := true, apart := false, narrowed := true }
def AddrMovesUptoSaid : Prop := addrMovesUptoRow.holds Try.pinned (OpenSpec.upto addrMovesSpec)

/-- 'cosmaclaw03.AddrLists', WHERE WHAT IT READS IS OF BULK AT MOST 1048576: true; the input reads as it did. -/
def addrListsUptoRow : OpenClaim := { program := "ytpccokimjmmmoaa", sum := "95b292aef2baf6d3382a11bf778c39b0cc768c9f3195cfcb3c45a418cbb813aa", func := "cosmac/cosmaclaw03.AddrLists", spec := "addrLists", unfollowed := true, recurses := true, apart := false, narrowed := true }
def AddrListsUptoSaid : Prop := addrListsUptoRow.holds Try.pinned (OpenSpec.upto addrListsSpec)

end Rows
end Go.Proofs.Ytpccokimjmmmoaa
