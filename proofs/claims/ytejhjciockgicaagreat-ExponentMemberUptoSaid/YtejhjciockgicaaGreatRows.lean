/-
  NARROWER THAN 'FOR EVERY INPUT', by the rows' own cells (each row's printed sentence says how): ExponentCharacter: loops · ExponentMul: loops.
  DERIVED. THE GIVEN ROWS OF THIS SEAT. 4 by the template 'for every input the law returns true; each argument reads behind the call as it read before'; 0 by the template 'total and deterministic' (their statements: YtejhjciockgicaaGreatTotals.lean).
  GIVEN WITH THE SEED: the statements are not yours to turn. If you find one false, say at which input.
  Laid BY PROGRAM, IN A SANDBOX (cutbox-rows.mjs): the forced cells as the released guide's own fill.sh prints them over the translation b13c4e7bbf0c4832… (all of the seat's roots in one cut). By AI agents, Wed Nov 11 2026. No macro, syntax, notation, axiom, sorry.
-/
import Derived.Test.YtejhjciockgicaaGreatChecked
import GoSem.Claim
import GoSem.ClaimJoined
import GoSem.ClaimMapViews
import Derived.JoinedTies
import Derived.KernelRfl
namespace Go.Proofs.YtejhjciockgicaaGreat
/- THE CELL 'sum', in the pinned program and in every row, IS THE sha256 OF THE DUMP (.gsa) THAT YtejhjciockgicaaGreatProg.lean LOADS. Nothing in Lean hashes anything: it is a label: what it is worth is what the hold of that sum in a sandbox is worth. -/
noncomputable def Tryz.pinned : Pinned := { name := "ytejhjciockgicaagreat", sum := "b13c4e7bbf0c4832785648fcf782cf9ff5bb14a0ab5d0e5ca698a21129ae41c4", checked := Tryz.checked }
namespace Rows
def none {H : Type} : Left H := { results := [], args := [] }

/-- 'sealringlaw06.ExponentCharacter': WHATEVER THE INPUT: true; the input reads as it did. -/
def exponentCharacterSpec : ChangeSpec := { name := "exponentCharacter", fn := fun _ => fun
  | [d1, d2] => { results := [.lit (.bool true)], args := [d1, d2] }
  | _ => none }
def exponentCharacterRow : OpenClaim := { program := "ytejhjciockgicaagreat", sum := "b13c4e7bbf0c4832785648fcf782cf9ff5bb14a0ab5d0e5ca698a21129ae41c4", func := "sealring/sealringlaw06.ExponentCharacter", spec := "exponentCharacter", inPlace := ["internal/bytealg.abigen_runtime_cmpstring", "slices.overlaps[sealring/api.Power]"], unfollowed := true, recurses := true, loops := true, apart := false }
def ExponentCharacterSaid : Prop := exponentCharacterRow.holds Tryz.pinned (OpenSpec.ofChange exponentCharacterSpec)

/-- ITS FALSE NEIGHBOUR: 'it returns false'. Refute it at one input. -/
def exponentCharacterWrong : ChangeSpec := { name := "exponentCharacter", fn := fun _ => fun
  | [d1, d2] => { results := [.lit (.bool false)], args := [d1, d2] }
  | _ => none }
def ExponentCharacterWrongFalsely : Prop := exponentCharacterRow.holds Tryz.pinned (OpenSpec.ofChange exponentCharacterWrong)

/-- 'sealringlaw06.ExponentCheck': WHATEVER THE INPUT: true; the input reads as it did. -/
def exponentCheckSpec : ChangeSpec := { name := "exponentCheck", fn := fun _ => fun
  | [d1, d2] => { results := [.lit (.bool true)], args := [d1, d2] }
  | _ => none }
def exponentCheckRow : OpenClaim := { program := "ytejhjciockgicaagreat", sum := "b13c4e7bbf0c4832785648fcf782cf9ff5bb14a0ab5d0e5ca698a21129ae41c4", func := "sealring/sealringlaw06.ExponentCheck", spec := "exponentCheck", inPlace := ["internal/bytealg.abigen_runtime_cmpstring", "slices.overlaps[sealring/api.Power]"], unfollowed := true, recurses := true, apart := false }
def ExponentCheckSaid : Prop := exponentCheckRow.holds Tryz.pinned (OpenSpec.ofChange exponentCheckSpec)

/-- ITS FALSE NEIGHBOUR: 'it returns false'. Refute it at one input. -/
def exponentCheckWrong : ChangeSpec := { name := "exponentCheck", fn := fun _ => fun
  | [d1, d2] => { results := [.lit (.bool false)], args := [d1, d2] }
  | _ => none }
def ExponentCheckWrongFalsely : Prop := exponentCheckRow.holds Tryz.pinned (OpenSpec.ofChange exponentCheckWrong)

/-- 'sealringlaw06.ExponentMul': WHATEVER THE INPUT: true; the input reads as it did. -/
def exponentMulSpec : ChangeSpec := { name := "exponentMul", fn := fun _ => fun
  | [d1, d2, d3] => { results := [.lit (.bool true)], args := [d1, d2, d3] }
  | _ => none }
def exponentMulRow : OpenClaim := { program := "ytejhjciockgicaagreat", sum := "b13c4e7bbf0c4832785648fcf782cf9ff5bb14a0ab5d0e5ca698a21129ae41c4", func := "sealring/sealringlaw06.ExponentMul", spec := "exponentMul", inPlace := ["internal/bytealg.abigen_runtime_cmpstring", "slices.overlaps[sealring/api.Power]"], unfollowed := true, recurses := true, loops := true, apart := false }
def ExponentMulSaid : Prop := exponentMulRow.holds Tryz.pinned (OpenSpec.ofChange exponentMulSpec)

/-- ITS FALSE NEIGHBOUR: 'it returns false'. Refute it at one input. -/
def exponentMulWrong : ChangeSpec := { name := "exponentMul", fn := fun _ => fun
  | [d1, d2, d3] => { results := [.lit (.bool false)], args := [d1, d2, d3] }
  | _ => none }
def ExponentMulWrongFalsely : Prop := exponentMulRow.holds Tryz.pinned (OpenSpec.ofChange exponentMulWrong)

/-- 'sealringlaw06.ExponentMember': WHATEVER THE INPUT: true; the input reads as it did. -/
def exponentMemberSpec : ChangeSpec := { name := "exponentMember", fn := fun _ => fun
  | [d] => { results := [.lit (.bool true)], args := [d] }
  | _ => none }
def exponentMemberRow : OpenClaim := { program := "ytejhjciockgicaagreat", sum := "b13c4e7bbf0c4832785648fcf782cf9ff5bb14a0ab5d0e5ca698a21129ae41c4", func := "sealring/sealringlaw06.ExponentMember", spec := "exponentMember", inPlace := ["internal/bytealg.abigen_runtime_cmpstring", "slices.overlaps[sealring/api.Power]"], unfollowed := true, recurses := true, named := ["math/bits.divideError", "math/bits.overflowError"], apart := false }
def ExponentMemberSaid : Prop := exponentMemberRow.holds Tryz.pinned (OpenSpec.ofChange exponentMemberSpec)

/-- ITS FALSE NEIGHBOUR: 'it returns false'. Refute it at one input. -/
def exponentMemberWrong : ChangeSpec := { name := "exponentMember", fn := fun _ => fun
  | [d] => { results := [.lit (.bool false)], args := [d] }
  | _ => none }
def ExponentMemberWrongFalsely : Prop := exponentMemberRow.holds Tryz.pinned (OpenSpec.ofChange exponentMemberWrong)

/- THE SECOND FORM. 'bulk': how many values and letters a reading holds, each counted each time it is reached (what is shared counts as often as it is met; a slice's spare places count too). A statement '..UptoSaid' is the law's where the arguments, and the package variables that the reading takes, are together of bulk at most 1048576: NARROWER than '..Said'. Prove '..Said' where nothing that the law and all that it calls make is longer than what came in: it says more and counts as full. Else prove '..UptoSaid'. A law counts once. -/
mutual
def uptoBulk {H : Type} : DataW H → Nat
  | .lit (.string bytes) => bytes.length + 1
  | .lit _ => 1
  | .nil => 1
  | .ptr d => uptoBulk d + 1
  | .slice elems spare => uptoBulkAll elems + uptoBulkAll spare + 1
  | .agg parts => uptoBulkAll parts + 1
  | .iface _ d => uptoBulk d + 1
  | .map entries => uptoBulkEntries entries + 1
  | .held _ => 1
def uptoBulkAll {H : Type} : List (DataW H) → Nat
  | [] => 0
  | d :: r => uptoBulk d + uptoBulkAll r
def uptoBulkEntries {H : Type} : List (Lit × DataW H) → Nat
  | [] => 0
  | x :: r => uptoBulkEntry x + uptoBulkEntries r
def uptoBulkEntry {H : Type} : Lit × DataW H → Nat
  | (.string bytes, d) => bytes.length + uptoBulk d + 1
  | (_, d) => uptoBulk d + 1
 end
def uptoSmall : (H : Type) → List (DataW H) → Bool := fun _ ds => decide (uptoBulkAll ds ≤ 1048576)
def OpenSpec.upto (s : _root_.Go.ChangeSpec) : _root_.Go.OpenSpec := { _root_.Go.OpenSpec.ofChange s with cond := some uptoSmall }

/-- 'sealringlaw06.ExponentCharacter', WHERE WHAT IT READS IS OF BULK AT MOST 1048576: true; the input reads as it did. -/
def exponentCharacterUptoRow : OpenClaim := { program := "ytejhjciockgicaagreat", sum := "b13c4e7bbf0c4832785648fcf782cf9ff5bb14a0ab5d0e5ca698a21129ae41c4", func := "sealring/sealringlaw06.ExponentCharacter", spec := "exponentCharacter", inPlace := ["internal/bytealg.abigen_runtime_cmpstring", "slices.overlaps[sealring/api.Power]"], unfollowed := true, recurses := true, loops := true, apart := false, narrowed := true }
def ExponentCharacterUptoSaid : Prop := exponentCharacterUptoRow.holds Tryz.pinned (OpenSpec.upto exponentCharacterSpec)

/-- 'sealringlaw06.ExponentCheck', WHERE WHAT IT READS IS OF BULK AT MOST 1048576: true; the input reads as it did. -/
def exponentCheckUptoRow : OpenClaim := { program := "ytejhjciockgicaagreat", sum := "b13c4e7bbf0c4832785648fcf782cf9ff5bb14a0ab5d0e5ca698a21129ae41c4", func := "sealring/sealringlaw06.ExponentCheck", spec := "exponentCheck", inPlace := ["internal/bytealg.abigen_runtime_cmpstring", "slices.overlaps[sealring/api.Power]"], unfollowed := true, recurses := true, apart := false, narrowed := true }
def ExponentCheckUptoSaid : Prop := exponentCheckUptoRow.holds Tryz.pinned (OpenSpec.upto exponentCheckSpec)

/-- 'sealringlaw06.ExponentMul', WHERE WHAT IT READS IS OF BULK AT MOST 1048576: true; the input reads as it did. -/
def exponentMulUptoRow : OpenClaim := { program := "ytejhjciockgicaagreat", sum := "b13c4e7bbf0c4832785648fcf782cf9ff5bb14a0ab5d0e5ca698a21129ae41c4", func := "sealring/sealringlaw06.ExponentMul", spec := "exponentMul", inPlace := ["internal/bytealg.abigen_runtime_cmpstring", "slices.overlaps[sealring/api.Power]"], unfollowed := true, recurses := true, loops := true, apart := false, narrowed := true }
def ExponentMulUptoSaid : Prop := exponentMulUptoRow.holds Tryz.pinned (OpenSpec.upto exponentMulSpec)

/-- 'sealringlaw06.ExponentMember', WHERE WHAT IT READS IS OF BULK AT MOST 1048576: true; the input reads as it did. -/
def exponentMemberUptoRow : OpenClaim := { program := "ytejhjciockgicaagreat", sum := "b13c4e7bbf0c4832785648fcf782cf9ff5bb14a0ab5d0e5ca698a21129ae41c4", func := "sealring/sealringlaw06.ExponentMember", spec := "exponentMember", inPlace := ["internal/bytealg.abigen_runtime_cmpstring", "slices.overlaps[sealring/api.Power]"], unfollowed := true, recurses := true, named := ["math/bits.divideError", "math/bits.overflowError"], apart := false, narrowed := true }
def ExponentMemberUptoSaid : Prop := exponentMemberUptoRow.holds Tryz.pinned (OpenSpec.upto exponentMemberSpec)

end Rows
end Go.Proofs.YtejhjciockgicaaGreat
