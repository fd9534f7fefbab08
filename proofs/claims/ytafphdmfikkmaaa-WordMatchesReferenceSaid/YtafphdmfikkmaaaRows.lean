/-
  No cell of these rows narrows 'for every input' (looked for: loops, veiled, ifaces, maps, wideKeys, modest, calm, conditions, laid).
  DERIVED. THE GIVEN ROWS OF THIS SEAT. 5 by the template 'for every input the law returns true; each argument reads behind the call as it read before'; 0 by the template 'total and deterministic' (their statements: YtafphdmfikkmaaaTotals.lean).
  GIVEN WITH THE SEED: the statements are not yours to turn. If you find one false, say at which input.
  Laid BY PROGRAM, IN A SANDBOX (cutbox-rows.mjs): the forced cells as the released guide's own fill.sh prints them over the translation e529eda2f78c238a… (all of the seat's roots in one cut). By AI agents, Wed Nov 11 2026. No macro, syntax, notation, axiom, sorry.
-/
import Derived.Test.YtafphdmfikkmaaaChecked
import GoSem.Claim
import GoSem.ClaimJoined
import GoSem.ClaimMapViews
import Derived.JoinedTies
import Derived.KernelRfl
namespace Go.Proofs.Ytafphdmfikkmaaa
/- THE CELL 'sum', in the pinned program and in every row, IS THE sha256 OF THE DUMP (.gsa) THAT YtafphdmfikkmaaaProg.lean LOADS. Nothing in Lean hashes anything: it is a label: what it is worth is what the hold of that sum in a sandbox is worth. -/
noncomputable def Try.pinned : Pinned := { name := "ytafphdmfikkmaaa", sum := "e529eda2f78c238a0020c831b323240f770526d96f9b1244fa9a8ff727bc9be5", checked := Try.checked }
namespace Rows
def none {H : Type} : Left H := { results := [], args := [] }

/-- 'cosmaclaw01.WordMatchesReference': WHATEVER THE INPUT: true; the input reads as it did. -/
def wordMatchesReferenceSpec : ChangeSpec := { name := "wordMatchesReference", fn := fun _ => fun
  | [d1, d2, d3, d4] => { results := [.lit (.bool true)], args := [d1, d2, d3, d4] }
  | _ => none }
def wordMatchesReferenceRow : OpenClaim := { program := "ytafphdmfikkmaaa", sum := "e529eda2f78c238a0020c831b323240f770526d96f9b1244fa9a8ff727bc9be5", func := "cosmac/cosmaclaw01.WordMatchesReference", spec := "wordMatchesReference", apart := false }
def WordMatchesReferenceSaid : Prop := wordMatchesReferenceRow.holds Try.pinned (OpenSpec.ofChange wordMatchesReferenceSpec)

/-- ITS FALSE NEIGHBOUR: 'it returns false'. Refute it at one input. -/
def wordMatchesReferenceWrong : ChangeSpec := { name := "wordMatchesReference", fn := fun _ => fun
  | [d1, d2, d3, d4] => { results := [.lit (.bool false)], args := [d1, d2, d3, d4] }
  | _ => none }
def WordMatchesReferenceWrongFalsely : Prop := wordMatchesReferenceRow.holds Try.pinned (OpenSpec.ofChange wordMatchesReferenceWrong)

/-- 'cosmaclaw01.WordFields': WHATEVER THE INPUT: true; the input reads as it did. -/
def wordFieldsSpec : ChangeSpec := { name := "wordFields", fn := fun _ => fun
  | [d1, d2] => { results := [.lit (.bool true)], args := [d1, d2] }
  | _ => none }
def wordFieldsRow : OpenClaim := { program := "ytafphdmfikkmaaa", sum := "e529eda2f78c238a0020c831b323240f770526d96f9b1244fa9a8ff727bc9be5", func := "cosmac/cosmaclaw01.WordFields", spec := "wordFields", apart := false }
def WordFieldsSaid : Prop := wordFieldsRow.holds Try.pinned (OpenSpec.ofChange wordFieldsSpec)

/-- ITS FALSE NEIGHBOUR: 'it returns false'. Refute it at one input. -/
def wordFieldsWrong : ChangeSpec := { name := "wordFields", fn := fun _ => fun
  | [d1, d2] => { results := [.lit (.bool false)], args := [d1, d2] }
  | _ => none }
def WordFieldsWrongFalsely : Prop := wordFieldsRow.holds Try.pinned (OpenSpec.ofChange wordFieldsWrong)

/-- 'cosmaclaw01.WordJoins': WHATEVER THE INPUT: true; the input reads as it did. -/
def wordJoinsSpec : ChangeSpec := { name := "wordJoins", fn := fun _ => fun
  | [d1, d2, d3, d4] => { results := [.lit (.bool true)], args := [d1, d2, d3, d4] }
  | _ => none }
def wordJoinsRow : OpenClaim := { program := "ytafphdmfikkmaaa", sum := "e529eda2f78c238a0020c831b323240f770526d96f9b1244fa9a8ff727bc9be5", func := "cosmac/cosmaclaw01.WordJoins", spec := "wordJoins", apart := false }
def WordJoinsSaid : Prop := wordJoinsRow.holds Try.pinned (OpenSpec.ofChange wordJoinsSpec)

/-- ITS FALSE NEIGHBOUR: 'it returns false'. Refute it at one input. -/
def wordJoinsWrong : ChangeSpec := { name := "wordJoins", fn := fun _ => fun
  | [d1, d2, d3, d4] => { results := [.lit (.bool false)], args := [d1, d2, d3, d4] }
  | _ => none }
def WordJoinsWrongFalsely : Prop := wordJoinsRow.holds Try.pinned (OpenSpec.ofChange wordJoinsWrong)

/-- 'cosmaclaw01.WordHex': WHATEVER THE INPUT: true; the input reads as it did. -/
def wordHexSpec : ChangeSpec := { name := "wordHex", fn := fun _ => fun
  | [d1, d2, d3] => { results := [.lit (.bool true)], args := [d1, d2, d3] }
  | _ => none }
def wordHexRow : OpenClaim := { program := "ytafphdmfikkmaaa", sum := "e529eda2f78c238a0020c831b323240f770526d96f9b1244fa9a8ff727bc9be5", func := "cosmac/cosmaclaw01.WordHex", spec := "wordHex", apart := false }
def WordHexSaid : Prop := wordHexRow.holds Try.pinned (OpenSpec.ofChange wordHexSpec)

/-- ITS FALSE NEIGHBOUR: 'it returns false'. Refute it at one input. -/
def wordHexWrong : ChangeSpec := { name := "wordHex", fn := fun _ => fun
  | [d1, d2, d3] => { results := [.lit (.bool false)], args := [d1, d2, d3] }
  | _ => none }
def WordHexWrongFalsely : Prop := wordHexRow.holds Try.pinned (OpenSpec.ofChange wordHexWrong)

/-- 'cosmaclaw01.WordNumbers': WHATEVER THE INPUT: true; the input reads as it did. -/
def wordNumbersSpec : ChangeSpec := { name := "wordNumbers", fn := fun _ => fun
  | [d1, d2, d3, d4] => { results := [.lit (.bool true)], args := [d1, d2, d3, d4] }
  | _ => none }
def wordNumbersRow : OpenClaim := { program := "ytafphdmfikkmaaa", sum := "e529eda2f78c238a0020c831b323240f770526d96f9b1244fa9a8ff727bc9be5", func := "cosmac/cosmaclaw01.WordNumbers", spec := "wordNumbers", apart := false }
def WordNumbersSaid : Prop := wordNumbersRow.holds Try.pinned (OpenSpec.ofChange wordNumbersSpec)

/-- ITS FALSE NEIGHBOUR: 'it returns false'. Refute it at one input. -/
def wordNumbersWrong : ChangeSpec := { name := "wordNumbers", fn := fun _ => fun
  | [d1, d2, d3, d4] => { results := [.lit (.bool false)], args := [d1, d2, d3, d4] }
  | _ => none }
def WordNumbersWrongFalsely : Prop := wordNumbersRow.holds Try.pinned (OpenSpec.ofChange wordNumbersWrong)

/- THE SECOND FORM. 'bulk': how many values and letters a reading holds, each counted each time it is reached (what is shared counts as often as it is met; a slice's spare places count too). A statement '..UptoSaid' is the law's where the arguments, and the package variables that the reading takes, are together of bulk at most 1048576: NARROWER than '..Said'. Prove '..Said' where nothing that the law and all that it calls make is longer than what came in: it says more and counts as full. Else prove '..UptoSaid'. A law counts once. -/
mutual
def uptoBulk {H : Type} : DataW H → Nat
  | .lit (.string bytes) => bytes.length + 1
  | .lit _ => 1
  | .nil => 1
  | .ptr d => uptoBulk d + 1
  | .slice elems spare => uptoBulkAll elems + uptoBulkAll spare + 1
  | .agg parts => uptoBulkAll parts + 1
  | .iface _ d => uptoBulk d + 1
  | .map entries => uptoBulkEntries entries + 1
  | .held _ => 1
def uptoBulkAll {H : Type} : List (DataW H) → Nat
  | [] => 0
  | d :: r => uptoBulk d + uptoBulkAll r
def uptoBulkEntries {H : Type} : List (Lit × DataW H) → Nat
  | [] => 0
  | x :: r => uptoBulkEntry x + uptoBulkEntries r
def uptoBulkEntry {H : Type} : Lit × DataW H → Nat
  | (.string bytes, d) => bytes.length + uptoBulk d + 1
  | (_, d) => uptoBulk d + 1
 end
def uptoSmall : (H : Type) → List (DataW H) → Bool := fun _ ds => decide (uptoBulkAll ds ≤ 1048576)
def OpenSpec.upto (s : _root_.Go.ChangeSpec) : _root_.Go.OpenSpec := { _root_.Go.OpenSpec.ofChange s with cond := some uptoSmall }

/-- 'cosmaclaw01.WordMatchesReference', WHERE WHAT IT READS IS OF BULK AT MOST 1048576: true; the input reads as it did. -/
def wordMatchesReferenceUptoRow : OpenClaim := { program := "ytafphdmfikkmaaa", sum := "e529eda2f78c238a0020c831b323240f770526d96f9b1244fa9a8ff727bc9be5", func := "cosmac/cosmaclaw01.WordMatchesReference", spec := "wordMatchesReference", apart := false, narrowed := true }
def WordMatchesReferenceUptoSaid : Prop := wordMatchesReferenceUptoRow.holds Try.pinned (OpenSpec.upto wordMatchesReferenceSpec)

/-- 'cosmaclaw01.WordFields', WHERE WHAT IT READS IS OF BULK AT MOST 1048576: true; the input reads as it did. -/
def wordFieldsUptoRow : OpenClaim := { program := "ytafphdmfikkmaaa", sum := "e529eda2f78c238a0020c831b323240f770526d96f9b1244fa9a8ff727bc9be5", func := "cosmac/cosmaclaw01.WordFields", spec := "wordFields", apart := false, narrowed := true }
def WordFieldsUptoSaid : Prop := wordFieldsUptoRow.holds Try.pinned (OpenSpec.upto wordFieldsSpec)

/-- 'cosmaclaw01.WordJoins', WHERE WHAT IT READS IS OF BULK AT MOST 1048576: true; the input reads as it did. -/
def wordJoinsUptoRow : OpenClaim := { program := "ytafphdmfikkmaaa", sum := "e529eda2f78c238a0020c831b323240f770526d96f9b1244fa9a8ff727bc9be5", func := "cosmac/cosmaclaw01.WordJoins", spec := "wordJoins", apart := false, narrowed := true }
def WordJoinsUptoSaid : Prop := wordJoinsUptoRow.holds Try.pinned (OpenSpec.upto wordJoinsSpec)

/-- 'cosmaclaw01.WordHex', WHERE WHAT IT READS IS OF BULK AT MOST 1048576: true; the input reads as it did. -/
def wordHexUptoRow : OpenClaim := { program := "ytafphdmfikkmaaa", sum := "e529eda2f78c238a0020c831b323240f770526d96f9b1244fa9a8ff727bc9be5", func := "cosmac/cosmaclaw01.WordHex", spec := "wordHex", apart := false, narrowed := true }
def WordHexUptoSaid : Prop := wordHexUptoRow.holds Try.pinned (OpenSpec.upto wordHexSpec)

/-- 'cosmaclaw01.WordNumbers', WHERE WHAT IT READS IS OF BULK AT MOST 1048576: true; the input reads as it did. -/
def wordNumbersUptoRow : OpenClaim := { program := "ytafphdmfikkmaaa", sum := "e529eda2f78c238a0020c831b323240f770526d96f9b1244fa9a8ff727bc9be5", func := "cosmac/cosmaclaw01.WordNumbers", spec := "wordNumbers", apart := false, narrowed := true }
def WordNumbersUptoSaid : Prop := wordNumbersUptoRow.holds Try.pinned (OpenSpec.upto wordNumbersSpec)

end Rows
end Go.Proofs.Ytafphdmfikkmaaa
