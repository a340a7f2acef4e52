/-
  Pm, a part. Conditions: none.
-/
import Derived.Test.YtimogkojklpdnaaGreatDoorPyAO
import Derived.Test.YtimogkojklpdnaaGreatDoorCards
import Derived.Test.YtimogkojklpdnaaGreatDoorTie
import Derived.Deep.DeepHandedRow
set_option linter.unusedVariables false
set_option linter.unusedSimpArgs false
set_option linter.unnecessarySimpa false
set_option linter.unusedSectionVars false
namespace Go.Proofs.YtimogkojklpdnaaGreatDoor.Cg
open Go.ChangeShapes Go.WideShapes Go.ChangeAt Go.RowKit Go.Pm
set_option maxRecDepth 100000
set_option maxHeartbeats 2000000
noncomputable def leaves:Nat->DataW Unit->List Value
 |0,_=>[]
 |_+1,.lit (.int k v)=>[.int k v]
 |n+1,.agg ds=>ds.flatMap (leaves n)
 |_,_=>[]
noncomputable def put(h:Array Obj)(x:String×DataW Unit):Array Obj:=match Tryz.prog.globalNamed x.1 with
 |some g=>h.modify g λ
  | .cells _ t fr=>.cells (leaves 4 x.2).toArray t fr
  |o=>o
 |none=>h
noncomputable def uu(os:Os):World:=
 {World.holding Tryz.prog os ⟨#[],#[],[]⟩with heap:=Rows.constraintGenericUptoRow.laid.foldl put (World.holding Tryz.prog os ⟨#[],#[],[]⟩).heap}
theorem Ot(os:Os):laidMet Tryz.prog Rows.constraintGenericUptoRow.laid ((uu os).forCall (λ_ _=>0) ⟨#[],#[.slice none 0 0,.agg #[.slice none 0 0,.slice none 0 0]],[]⟩).memory:=
 laidMet_of_run' 8 (by kernel_rfl) (by kernel_rfl)
theorem reads(os:Os){H:Type}(ec:TypeId×Value->H):∃places,DataW.whole ec Tryz.prog ((uu os).forCall (λ_ _=>0) ⟨#[],#[.slice none 0 0,.agg #[.slice none 0 0,.slice none 0 0]],[]⟩).memory Tryz.f10.params.toList Rows.constraintGenericSpec.vars false #[Value.slice none 0 0,.agg #[.slice none 0 0,.slice none 0 0]].toList 8=some ([.nil,.agg [.nil,.nil]],[],places):=
 ⟨[],by kernel_rfl⟩
end Go.Proofs.YtimogkojklpdnaaGreatDoor.Cg
