/-
  NARROWER THAN 'FOR EVERY INPUT', by the rows' own cells (each row's printed sentence says how): ExponentOf: loops · ExponentTerm: loops.
  DERIVED. THE GIVEN ROWS OF THIS SEAT. 3 by the template 'for every input the law returns true; each argument reads behind the call as it read before'; 0 by the template 'total and deterministic' (their statements: YtejhjciockgicaaTotals.lean).
  GIVEN WITH THE SEED: the statements are not yours to turn. If you find one false, say at which input.
  Laid BY PROGRAM, IN A SANDBOX (cutbox-rows.mjs): the forced cells as the released guide's own fill.sh prints them over the translation aa15ec14e1718d4c… (all of the seat's roots in one cut). By AI agents, Wed Nov 11 2026. No macro, syntax, notation, axiom, sorry.
-/
import Derived.Test.YtejhjciockgicaaChecked
import GoSem.Claim
import GoSem.ClaimJoined
import GoSem.ClaimMapViews
import Derived.JoinedTies
import Derived.KernelRfl
namespace Go.Proofs.Ytejhjciockgicaa
/- THE CELL 'sum', in the pinned program and in every row, IS THE sha256 OF THE DUMP (.gsa) THAT YtejhjciockgicaaProg.lean LOADS. Nothing in Lean hashes anything: it is a label: what it is worth is what the hold of that sum in a sandbox is worth. -/
noncomputable def Try.pinned : Pinned := { name := "ytejhjciockgicaa", sum := "aa15ec14e1718d4cf1551dccba361b87d1c4eae7e8b1cd752e0512795970b85f", checked := Try.checked }
namespace Rows
def none {H : Type} : Left H := { results := [], args := [] }

/-- 'sealringlaw06.ExponentOf': WHATEVER THE INPUT: true; the input reads as it did. -/
def exponentOfSpec : ChangeSpec := { name := "exponentOf", fn := fun _ => fun
  | [d] => { results := [.lit (.bool true)], args := [d] }
  | _ => none }
def exponentOfRow : OpenClaim := { program := "ytejhjciockgicaa", sum := "aa15ec14e1718d4cf1551dccba361b87d1c4eae7e8b1cd752e0512795970b85f", func := "sealring/sealringlaw06.ExponentOf", spec := "exponentOf", inPlace := ["internal/bytealg.abigen_runtime_cmpstring", "slices.overlaps[sealring/api.Power]"], unfollowed := true, recurses := true, loops := true, apart := false }
def ExponentOfSaid : Prop := exponentOfRow.holds Try.pinned (OpenSpec.ofChange exponentOfSpec)

/-- ITS FALSE NEIGHBOUR: 'it returns false'. Refute it at one input. -/
def exponentOfWrong : ChangeSpec := { name := "exponentOf", fn := fun _ => fun
  | [d] => { results := [.lit (.bool false)], args := [d] }
  | _ => none }
def ExponentOfWrongFalsely : Prop := exponentOfRow.holds Try.pinned (OpenSpec.ofChange exponentOfWrong)

/-- 'sealringlaw06.ExponentTerm': WHATEVER THE INPUT: true; the input reads as it did. -/
def exponentTermSpec : ChangeSpec := { name := "exponentTerm", fn := fun _ => fun
  | [d] => { results := [.lit (.bool true)], args := [d] }
  | _ => none }
def exponentTermRow : OpenClaim := { program := "ytejhjciockgicaa", sum := "aa15ec14e1718d4cf1551dccba361b87d1c4eae7e8b1cd752e0512795970b85f", func := "sealring/sealringlaw06.ExponentTerm", spec := "exponentTerm", inPlace := ["internal/bytealg.abigen_runtime_cmpstring", "slices.overlaps[sealring/api.Power]"], unfollowed := true, recurses := true, loops := true, apart := false }
def ExponentTermSaid : Prop := exponentTermRow.holds Try.pinned (OpenSpec.ofChange exponentTermSpec)

/-- ITS FALSE NEIGHBOUR: 'it returns false'. Refute it at one input. -/
def exponentTermWrong : ChangeSpec := { name := "exponentTerm", fn := fun _ => fun
  | [d] => { results := [.lit (.bool false)], args := [d] }
  | _ => none }
def ExponentTermWrongFalsely : Prop := exponentTermRow.holds Try.pinned (OpenSpec.ofChange exponentTermWrong)

/-- 'sealringlaw06.ExponentGroup': WHATEVER THE INPUT: true; the input reads as it did. -/
def exponentGroupSpec : ChangeSpec := { name := "exponentGroup", fn := fun _ => fun
  | [d1, d2, d3] => { results := [.lit (.bool true)], args := [d1, d2, d3] }
  | _ => none }
def exponentGroupRow : OpenClaim := { program := "ytejhjciockgicaa", sum := "aa15ec14e1718d4cf1551dccba361b87d1c4eae7e8b1cd752e0512795970b85f", func := "sealring/sealringlaw06.ExponentGroup", spec := "exponentGroup", inPlace := ["internal/bytealg.abigen_runtime_cmpstring", "slices.overlaps[sealring/api.Power]"], unfollowed := true, recurses := true, apart := false }
def ExponentGroupSaid : Prop := exponentGroupRow.holds Try.pinned (OpenSpec.ofChange exponentGroupSpec)

/-- ITS FALSE NEIGHBOUR: 'it returns false'. Refute it at one input. -/
def exponentGroupWrong : ChangeSpec := { name := "exponentGroup", fn := fun _ => fun
  | [d1, d2, d3] => { results := [.lit (.bool false)], args := [d1, d2, d3] }
  | _ => none }
def ExponentGroupWrongFalsely : Prop := exponentGroupRow.holds Try.pinned (OpenSpec.ofChange exponentGroupWrong)

/- THE SECOND FORM. 'bulk': how many values and letters a reading holds, each counted each time it is reached (what is shared counts as often as it is met; a slice's spare places count too). A statement '..UptoSaid' is the law's where the arguments, and the package variables that the reading takes, are together of bulk at most 1048576: NARROWER than '..Said'. Prove '..Said' where nothing that the law and all that it calls make is longer than what came in: it says more and counts as full. Else prove '..UptoSaid'. A law counts once. -/
mutual
def uptoBulk {H : Type} : DataW H → Nat
  | .lit (.string bytes) => bytes.length + 1
  | .lit _ => 1
  | .nil => 1
  | .ptr d => uptoBulk d + 1
  | .slice elems spare => uptoBulkAll elems + uptoBulkAll spare + 1
  | .agg parts => uptoBulkAll parts + 1
  | .iface _ d => uptoBulk d + 1
  | .map entries => uptoBulkEntries entries + 1
  | .held _ => 1
def uptoBulkAll {H : Type} : List (DataW H) → Nat
  | [] => 0
  | d :: r => uptoBulk d + uptoBulkAll r
def uptoBulkEntries {H : Type} : List (Lit × DataW H) → Nat
  | [] => 0
  | x :: r => uptoBulkEntry x + uptoBulkEntries r
def uptoBulkEntry {H : Type} : Lit × DataW H → Nat
  | (.string bytes, d) => bytes.length + uptoBulk d + 1
  | (_, d) => uptoBulk d + 1
 end
def uptoSmall : (H : Type) → List (DataW H) → Bool := fun _ ds => decide (uptoBulkAll ds ≤ 1048576)
def OpenSpec.upto (s : _root_.Go.ChangeSpec) : _root_.Go.OpenSpec := { _root_.Go.OpenSpec.ofChange s with cond := some uptoSmall }

/-- 'sealringlaw06.ExponentOf', WHERE WHAT IT READS IS OF BULK AT MOST 1048576: true; the input reads as it did. -/
def exponentOfUptoRow : OpenClaim := { program := "ytejhjciockgicaa", sum := "aa15ec14e1718d4cf1551dccba361b87d1c4eae7e8b1cd752e0512795970b85f", func := "sealring/sealringlaw06.ExponentOf", spec := "exponentOf", inPlace := ["internal/bytealg.abigen_runtime_cmpstring", "slices.overlaps[sealring/api.Power]"], unfollowed := true, recurses := true, loops := true, apart := false, narrowed := true }
def ExponentOfUptoSaid : Prop := exponentOfUptoRow.holds Try.pinned (OpenSpec.upto exponentOfSpec)

/-- 'sealringlaw06.ExponentTerm', WHERE WHAT IT READS IS OF BULK AT MOST 1048576: true; the input reads as it did. -/
def exponentTermUptoRow : OpenClaim := { program := "ytejhjciockgicaa", sum := "aa15ec14e1718d4cf1551dccba361b87d1c4eae7e8b1cd752e0512795970b85f", func := "sealring/sealringlaw06.ExponentTerm", spec := "exponentTerm", inPlace := ["internal/bytealg.abigen_runtime_cmpstring", "slices.overlaps[sealring/api.Power]"], unfollowed := true, recurses := true, loops := true, apart := false, narrowed := true }
def ExponentTermUptoSaid : Prop := exponentTermUptoRow.holds Try.pinned (OpenSpec.upto exponentTermSpec)

/-- 'sealringlaw06.ExponentGroup', WHERE WHAT IT READS IS OF BULK AT MOST 1048576: true; the input reads as it did. -/
def exponentGroupUptoRow : OpenClaim := { program := "ytejhjciockgicaa", sum := "aa15ec14e1718d4cf1551dccba361b87d1c4eae7e8b1cd752e0512795970b85f", func := "sealring/sealringlaw06.ExponentGroup", spec := "exponentGroup", inPlace := ["internal/bytealg.abigen_runtime_cmpstring", "slices.overlaps[sealring/api.Power]"], unfollowed := true, recurses := true, apart := false, narrowed := true }
def ExponentGroupUptoSaid : Prop := exponentGroupUptoRow.holds Try.pinned (OpenSpec.upto exponentGroupSpec)

end Rows
end Go.Proofs.Ytejhjciockgicaa
