/-
  No cell of these rows narrows 'for every input' (looked for: loops, veiled, ifaces, maps, wideKeys, modest, calm, conditions, laid).
  DERIVED. THE GIVEN ROWS OF THIS SEAT. 4 by the template 'for every input the law returns true; each argument reads behind the call as it read before'; 0 by the template 'total and deterministic' (their statements: YtjpkpojgcckhkaaTotals.lean).
  GIVEN WITH THE SEED: the statements are not yours to turn. If you find one false, say at which input.
  Laid BY PROGRAM, IN A SANDBOX (cutbox-rows.mjs): the forced cells as the released guide's own fill.sh prints them over the translation de8b63e17080a837… (all of the seat's roots in one cut). By AI agents, Wed Nov 11 2026. No macro, syntax, notation, axiom, sorry.
-/
import Derived.Test.YtjpkpojgcckhkaaChecked
import GoSem.Claim
import GoSem.ClaimJoined
import GoSem.ClaimMapViews
import Derived.JoinedTies
import Derived.KernelRfl
namespace Go.Proofs.Ytjpkpojgcckhkaa
/- THE CELL 'sum', in the pinned program and in every row, IS THE sha256 OF THE DUMP (.gsa) THAT YtjpkpojgcckhkaaProg.lean LOADS. Nothing in Lean hashes anything: it is a label: what it is worth is what the hold of that sum in a sandbox is worth. -/
noncomputable def Try.pinned : Pinned := { name := "ytjpkpojgcckhkaa", sum := "de8b63e17080a8374e08e0928cf37b51259a2eb209050b4bc1803a49405103bc", checked := Try.checked }
namespace Rows
def none {H : Type} : Left H := { results := [], args := [] }

/-- 'cosmaclaw10.TimerMatchesReference': WHATEVER THE INPUT: true; the input reads as it did. -/
def timerMatchesReferenceSpec : ChangeSpec := { name := "timerMatchesReference", fn := fun _ => fun
  | [d1, d2, d3] => { results := [.lit (.bool true)], args := [d1, d2, d3] }
  | _ => none }
def timerMatchesReferenceRow : OpenClaim := { program := "ytjpkpojgcckhkaa", sum := "de8b63e17080a8374e08e0928cf37b51259a2eb209050b4bc1803a49405103bc", func := "cosmac/cosmaclaw10.TimerMatchesReference", spec := "timerMatchesReference", apart := false }
def TimerMatchesReferenceSaid : Prop := timerMatchesReferenceRow.holds Try.pinned (OpenSpec.ofChange timerMatchesReferenceSpec)

/-- ITS FALSE NEIGHBOUR: 'it returns false'. Refute it at one input. -/
def timerMatchesReferenceWrong : ChangeSpec := { name := "timerMatchesReference", fn := fun _ => fun
  | [d1, d2, d3] => { results := [.lit (.bool false)], args := [d1, d2, d3] }
  | _ => none }
def TimerMatchesReferenceWrongFalsely : Prop := timerMatchesReferenceRow.holds Try.pinned (OpenSpec.ofChange timerMatchesReferenceWrong)

/-- 'cosmaclaw10.TimerCounts': WHATEVER THE INPUT: true; the input reads as it did. -/
def timerCountsSpec : ChangeSpec := { name := "timerCounts", fn := fun _ => fun
  | [d1, d2, d3] => { results := [.lit (.bool true)], args := [d1, d2, d3] }
  | _ => none }
def timerCountsRow : OpenClaim := { program := "ytjpkpojgcckhkaa", sum := "de8b63e17080a8374e08e0928cf37b51259a2eb209050b4bc1803a49405103bc", func := "cosmac/cosmaclaw10.TimerCounts", spec := "timerCounts", apart := false }
def TimerCountsSaid : Prop := timerCountsRow.holds Try.pinned (OpenSpec.ofChange timerCountsSpec)

/-- ITS FALSE NEIGHBOUR: 'it returns false'. Refute it at one input. -/
def timerCountsWrong : ChangeSpec := { name := "timerCounts", fn := fun _ => fun
  | [d1, d2, d3] => { results := [.lit (.bool false)], args := [d1, d2, d3] }
  | _ => none }
def TimerCountsWrongFalsely : Prop := timerCountsRow.holds Try.pinned (OpenSpec.ofChange timerCountsWrong)

/-- 'cosmaclaw10.TimerSums': WHATEVER THE INPUT: true; the input reads as it did. -/
def timerSumsSpec : ChangeSpec := { name := "timerSums", fn := fun _ => fun
  | [d1, d2, d3, d4] => { results := [.lit (.bool true)], args := [d1, d2, d3, d4] }
  | _ => none }
def timerSumsRow : OpenClaim := { program := "ytjpkpojgcckhkaa", sum := "de8b63e17080a8374e08e0928cf37b51259a2eb209050b4bc1803a49405103bc", func := "cosmac/cosmaclaw10.TimerSums", spec := "timerSums", apart := false }
def TimerSumsSaid : Prop := timerSumsRow.holds Try.pinned (OpenSpec.ofChange timerSumsSpec)

/-- ITS FALSE NEIGHBOUR: 'it returns false'. Refute it at one input. -/
def timerSumsWrong : ChangeSpec := { name := "timerSums", fn := fun _ => fun
  | [d1, d2, d3, d4] => { results := [.lit (.bool false)], args := [d1, d2, d3, d4] }
  | _ => none }
def TimerSumsWrongFalsely : Prop := timerSumsRow.holds Try.pinned (OpenSpec.ofChange timerSumsWrong)

/-- 'cosmaclaw10.TimerOrder': WHATEVER THE INPUT: true; the input reads as it did. -/
def timerOrderSpec : ChangeSpec := { name := "timerOrder", fn := fun _ => fun
  | [d1, d2, d3] => { results := [.lit (.bool true)], args := [d1, d2, d3] }
  | _ => none }
def timerOrderRow : OpenClaim := { program := "ytjpkpojgcckhkaa", sum := "de8b63e17080a8374e08e0928cf37b51259a2eb209050b4bc1803a49405103bc", func := "cosmac/cosmaclaw10.TimerOrder", spec := "timerOrder", apart := false }
def TimerOrderSaid : Prop := timerOrderRow.holds Try.pinned (OpenSpec.ofChange timerOrderSpec)

/-- ITS FALSE NEIGHBOUR: 'it returns false'. Refute it at one input. -/
def timerOrderWrong : ChangeSpec := { name := "timerOrder", fn := fun _ => fun
  | [d1, d2, d3] => { results := [.lit (.bool false)], args := [d1, d2, d3] }
  | _ => none }
def TimerOrderWrongFalsely : Prop := timerOrderRow.holds Try.pinned (OpenSpec.ofChange timerOrderWrong)

/- THE SECOND FORM. 'bulk': how many values and letters a reading holds, each counted each time it is reached (what is shared counts as often as it is met; a slice's spare places count too). A statement '..UptoSaid' is the law's where the arguments, and the package variables that the reading takes, are together of bulk at most 1048576: NARROWER than '..Said'. Prove '..Said' where nothing that the law and all that it calls make is longer than what came in: it says more and counts as full. Else prove '..UptoSaid'. A law counts once. -/
mutual
def uptoBulk {H : Type} : DataW H → Nat
  | .lit (.string bytes) => bytes.length + 1
  | .lit _ => 1
  | .nil => 1
  | .ptr d => uptoBulk d + 1
  | .slice elems spare => uptoBulkAll elems + uptoBulkAll spare + 1
  | .agg parts => uptoBulkAll parts + 1
  | .iface _ d => uptoBulk d + 1
  | .map entries => uptoBulkEntries entries + 1
  | .held _ => 1
def uptoBulkAll {H : Type} : List (DataW H) → Nat
  | [] => 0
  | d :: r => uptoBulk d + uptoBulkAll r
def uptoBulkEntries {H : Type} : List (Lit × DataW H) → Nat
  | [] => 0
  | x :: r => uptoBulkEntry x + uptoBulkEntries r
def uptoBulkEntry {H : Type} : Lit × DataW H → Nat
  | (.string bytes, d) => bytes.length + uptoBulk d + 1
  | (_, d) => uptoBulk d + 1
 end
def uptoSmall : (H : Type) → List (DataW H) → Bool := fun _ ds => decide (uptoBulkAll ds ≤ 1048576)
def OpenSpec.upto (s : _root_.Go.ChangeSpec) : _root_.Go.OpenSpec := { _root_.Go.OpenSpec.ofChange s with cond := some uptoSmall }

/-- 'cosmaclaw10.TimerMatchesReference', WHERE WHAT IT READS IS OF BULK AT MOST 1048576: true; the input reads as it did. -/
def timerMatchesReferenceUptoRow : OpenClaim := { program := "ytjpkpojgcckhkaa", sum := "de8b63e17080a8374e08e0928cf37b51259a2eb209050b4bc1803a49405103bc", func := "cosmac/cosmaclaw10.TimerMatchesReference", spec := "timerMatchesReference", apart := false, narrowed := true }
def TimerMatchesReferenceUptoSaid : Prop := timerMatchesReferenceUptoRow.holds Try.pinned (OpenSpec.upto timerMatchesReferenceSpec)

/-- 'cosmaclaw10.TimerCounts', WHERE WHAT IT READS IS OF BULK AT MOST 1048576: true; the input reads as it did. -/
def timerCountsUptoRow : OpenClaim := { program := "ytjpkpojgcckhkaa", sum := "de8b63e17080a8374e08e0928cf37b51259a2eb209050b4bc1803a49405103bc", func := "cosmac/cosmaclaw10.TimerCounts", spec := "timerCounts", apart := false, narrowed := true }
def TimerCountsUptoSaid : Prop := timerCountsUptoRow.holds Try.pinned (OpenSpec.upto timerCountsSpec)

/-- 'cosmaclaw10.TimerSums', WHERE WHAT IT READS IS OF BULK AT MOST 1048576: true; the input reads as it did. -/
def timerSumsUptoRow : OpenClaim := { program := "ytjpkpojgcckhkaa", sum := "de8b63e17080a8374e08e0928cf37b51259a2eb209050b4bc1803a49405103bc", func := "cosmac/cosmaclaw10.TimerSums", spec := "timerSums", apart := false, narrowed := true }
def TimerSumsUptoSaid : Prop := timerSumsUptoRow.holds Try.pinned (OpenSpec.upto timerSumsSpec)

/-- 'cosmaclaw10.TimerOrder', WHERE WHAT IT READS IS OF BULK AT MOST 1048576: true; the input reads as it did. -/
def timerOrderUptoRow : OpenClaim := { program := "ytjpkpojgcckhkaa", sum := "de8b63e17080a8374e08e0928cf37b51259a2eb209050b4bc1803a49405103bc", func := "cosmac/cosmaclaw10.TimerOrder", spec := "timerOrder", apart := false, narrowed := true }
def TimerOrderUptoSaid : Prop := timerOrderUptoRow.holds Try.pinned (OpenSpec.upto timerOrderSpec)

end Rows
end Go.Proofs.Ytjpkpojgcckhkaa
