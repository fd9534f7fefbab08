/-
  No cell of these rows narrows 'for every input' (looked for: loops, veiled, ifaces, maps, wideKeys, modest, calm, conditions, laid).
  DERIVED. THE GIVEN ROWS OF THIS SEAT. 4 by the template 'for every input the law returns true; each argument reads behind the call as it read before'; 0 by the template 'total and deterministic' (their statements: YtgpjnaabbfalkaaTotals.lean).
  GIVEN WITH THE SEED: the statements are not yours to turn. If you find one false, say at which input.
  Laid BY PROGRAM, IN A SANDBOX (cutbox-rows.mjs): the forced cells as the released guide's own fill.sh prints them over the translation 1a57f826e978b6e1… (all of the seat's roots in one cut). By AI agents, Wed Nov 11 2026. No macro, syntax, notation, axiom, sorry.
-/
import Derived.Test.YtgpjnaabbfalkaaChecked
import GoSem.Claim
import GoSem.ClaimJoined
import GoSem.ClaimMapViews
import Derived.JoinedTies
import Derived.KernelRfl
namespace Go.Proofs.Ytgpjnaabbfalkaa
/- THE CELL 'sum', in the pinned program and in every row, IS THE sha256 OF THE DUMP (.gsa) THAT YtgpjnaabbfalkaaProg.lean LOADS. Nothing in Lean hashes anything: it is a label: what it is worth is what the hold of that sum in a sandbox is worth. -/
noncomputable def Try.pinned : Pinned := { name := "ytgpjnaabbfalkaa", sum := "1a57f826e978b6e186be42810103403fe4a8f4ddb83dcd6455f4804412a1cdfb", checked := Try.checked }
namespace Rows
def none {H : Type} : Left H := { results := [], args := [] }

/-- 'cosmaclaw11.AudioLoads': WHATEVER THE INPUT: true; the input reads as it did. -/
def audioLoadsSpec : ChangeSpec := { name := "audioLoads", fn := fun _ => fun
  | [d1, d2, d3] => { results := [.lit (.bool true)], args := [d1, d2, d3] }
  | _ => none }
def audioLoadsRow : OpenClaim := { program := "ytgpjnaabbfalkaa", sum := "1a57f826e978b6e186be42810103403fe4a8f4ddb83dcd6455f4804412a1cdfb", func := "cosmac/cosmaclaw11.AudioLoads", spec := "audioLoads", unfollowed := true, recurses := true, apart := false }
def AudioLoadsSaid : Prop := audioLoadsRow.holds Try.pinned (OpenSpec.ofChange audioLoadsSpec)

/-- ITS FALSE NEIGHBOUR: 'it returns false'. Refute it at one input. -/
def audioLoadsWrong : ChangeSpec := { name := "audioLoads", fn := fun _ => fun
  | [d1, d2, d3] => { results := [.lit (.bool false)], args := [d1, d2, d3] }
  | _ => none }
def AudioLoadsWrongFalsely : Prop := audioLoadsRow.holds Try.pinned (OpenSpec.ofChange audioLoadsWrong)

/-- 'cosmaclaw11.AudioSilent': WHATEVER THE INPUT: true; the input reads as it did. -/
def audioSilentSpec : ChangeSpec := { name := "audioSilent", fn := fun _ => fun
  | [d] => { results := [.lit (.bool true)], args := [d] }
  | _ => none }
def audioSilentRow : OpenClaim := { program := "ytgpjnaabbfalkaa", sum := "1a57f826e978b6e186be42810103403fe4a8f4ddb83dcd6455f4804412a1cdfb", func := "cosmac/cosmaclaw11.AudioSilent", spec := "audioSilent", unfollowed := true, recurses := true, apart := false }
def AudioSilentSaid : Prop := audioSilentRow.holds Try.pinned (OpenSpec.ofChange audioSilentSpec)

/-- ITS FALSE NEIGHBOUR: 'it returns false'. Refute it at one input. -/
def audioSilentWrong : ChangeSpec := { name := "audioSilent", fn := fun _ => fun
  | [d] => { results := [.lit (.bool false)], args := [d] }
  | _ => none }
def AudioSilentWrongFalsely : Prop := audioSilentRow.holds Try.pinned (OpenSpec.ofChange audioSilentWrong)

/-- 'cosmaclaw11.AudioMatchesReference': WHATEVER THE INPUT: true; the input reads as it did. -/
def audioMatchesReferenceSpec : ChangeSpec := { name := "audioMatchesReference", fn := fun _ => fun
  | [d1, d2, d3] => { results := [.lit (.bool true)], args := [d1, d2, d3] }
  | _ => none }
def audioMatchesReferenceRow : OpenClaim := { program := "ytgpjnaabbfalkaa", sum := "1a57f826e978b6e186be42810103403fe4a8f4ddb83dcd6455f4804412a1cdfb", func := "cosmac/cosmaclaw11.AudioMatchesReference", spec := "audioMatchesReference", unfollowed := true, recurses := true, apart := false }
def AudioMatchesReferenceSaid : Prop := audioMatchesReferenceRow.holds Try.pinned (OpenSpec.ofChange audioMatchesReferenceSpec)

/-- ITS FALSE NEIGHBOUR: 'it returns false'. Refute it at one input. -/
def audioMatchesReferenceWrong : ChangeSpec := { name := "audioMatchesReference", fn := fun _ => fun
  | [d1, d2, d3] => { results := [.lit (.bool false)], args := [d1, d2, d3] }
  | _ => none }
def AudioMatchesReferenceWrongFalsely : Prop := audioMatchesReferenceRow.holds Try.pinned (OpenSpec.ofChange audioMatchesReferenceWrong)

/-- 'cosmaclaw11.AudioSamples': WHATEVER THE INPUT: true; the input reads as it did. -/
def audioSamplesSpec : ChangeSpec := { name := "audioSamples", fn := fun _ => fun
  | [d1, d2, d3] => { results := [.lit (.bool true)], args := [d1, d2, d3] }
  | _ => none }
def audioSamplesRow : OpenClaim := { program := "ytgpjnaabbfalkaa", sum := "1a57f826e978b6e186be42810103403fe4a8f4ddb83dcd6455f4804412a1cdfb", func := "cosmac/cosmaclaw11.AudioSamples", spec := "audioSamples", unfollowed := true, recurses := true, apart := false }
def AudioSamplesSaid : Prop := audioSamplesRow.holds Try.pinned (OpenSpec.ofChange audioSamplesSpec)

/-- ITS FALSE NEIGHBOUR: 'it returns false'. Refute it at one input. -/
def audioSamplesWrong : ChangeSpec := { name := "audioSamples", fn := fun _ => fun
  | [d1, d2, d3] => { results := [.lit (.bool false)], args := [d1, d2, d3] }
  | _ => none }
def AudioSamplesWrongFalsely : Prop := audioSamplesRow.holds Try.pinned (OpenSpec.ofChange audioSamplesWrong)

/- THE SECOND FORM. 'bulk': how many values and letters a reading holds, each counted each time it is reached (what is shared counts as often as it is met; a slice's spare places count too). A statement '..UptoSaid' is the law's where the arguments, and the package variables that the reading takes, are together of bulk at most 1048576: NARROWER than '..Said'. Prove '..Said' where nothing that the law and all that it calls make is longer than what came in: it says more and counts as full. Else prove '..UptoSaid'. A law counts once. -/
mutual
def uptoBulk {H : Type} : DataW H → Nat
  | .lit (.string bytes) => bytes.length + 1
  | .lit _ => 1
  | .nil => 1
  | .ptr d => uptoBulk d + 1
  | .slice elems spare => uptoBulkAll elems + uptoBulkAll spare + 1
  | .agg parts => uptoBulkAll parts + 1
  | .iface _ d => uptoBulk d + 1
  | .map entries => uptoBulkEntries entries + 1
  | .held _ => 1
def uptoBulkAll {H : Type} : List (DataW H) → Nat
  | [] => 0
  | d :: r => uptoBulk d + uptoBulkAll r
def uptoBulkEntries {H : Type} : List (Lit × DataW H) → Nat
  | [] => 0
  | x :: r => uptoBulkEntry x + uptoBulkEntries r
def uptoBulkEntry {H : Type} : Lit × DataW H → Nat
  | (.string bytes, d) => bytes.length + uptoBulk d + 1
  | (_, d) => uptoBulk d + 1
 end
def uptoSmall : (H : Type) → List (DataW H) → Bool := fun _ ds => decide (uptoBulkAll ds ≤ 1048576)
def OpenSpec.upto (s : _root_.Go.ChangeSpec) : _root_.Go.OpenSpec := { _root_.Go.OpenSpec.ofChange s with cond := some uptoSmall }

/-- 'cosmaclaw11.AudioLoads', WHERE WHAT IT READS IS OF BULK AT MOST 1048576: true; the input reads as it did. -/
def audioLoadsUptoRow : OpenClaim := { program := "ytgpjnaabbfalkaa", sum := "1a57f826e978b6e186be42810103403fe4a8f4ddb83dcd6455f4804412a1cdfb", func := "cosmac/cosmaclaw11.AudioLoads", spec := "audioLoads", unfollowed := true, recurses := true, apart := false, narrowed := true }
def AudioLoadsUptoSaid : Prop := audioLoadsUptoRow.holds Try.pinned (OpenSpec.upto audioLoadsSpec)

/-- 'cosmaclaw11.AudioSilent', WHERE WHAT IT READS IS OF BULK AT MOST 1048576: true; the input reads as it did. -/
def audioSilentUptoRow : OpenClaim := { program := "ytgpjnaabbfalkaa", sum := "1a57f826e978b6e186be42810103403fe4a8f4ddb83dcd6455f4804412a1cdfb", func := "cosmac/cosmaclaw11.AudioSilent", spec := "audioSilent", unfollowed := true, recurses := true, apart := false, narrowed := true }
def AudioSilentUptoSaid : Prop := audioSilentUptoRow.holds Try.pinned (OpenSpec.upto audioSilentSpec)

/-- 'cosmaclaw11.AudioMatchesReference', WHERE WHAT IT READS IS OF BULK AT MOST 1048576: true; the input reads as it did. -/
def audioMatchesReferenceUptoRow : OpenClaim := { program := "ytgpjnaabbfalkaa", sum := "1a57f826e978b6e186be42810103403fe4a8f4ddb83dcd6455f4804412a1cdfb", func := "cosmac/cosmaclaw11.AudioMatchesReference", spec := "audioMatchesReference", unfollowed := true, recurses := true, apart := false, narrowed := true }
def AudioMatchesReferenceUptoSaid : Prop := audioMatchesReferenceUptoRow.holds Try.pinned (OpenSpec.upto audioMatchesReferenceSpec)

/-- 'cosmaclaw11.AudioSamples', WHERE WHAT IT READS IS OF BULK AT MOST 1048576: true; the input reads as it did. -/
def audioSamplesUptoRow : OpenClaim := { program := "ytgpjnaabbfalkaa", sum := "1a57f826e978b6e186be42810103403fe4a8f4ddb83dcd6455f4804412a1cdfb", func := "cosmac/cosmaclaw11.AudioSamples", spec := "audioSamples", unfollowed := true, recurses := true, apart := false, narrowed := true }
def AudioSamplesUptoSaid : Prop := audioSamplesUptoRow.holds Try.pinned (OpenSpec.upto audioSamplesSpec)

end Rows
end Go.Proofs.Ytgpjnaabbfalkaa
