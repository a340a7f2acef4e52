/-
  Pm, a part. Conditions: none.
-/
import Derived.Test.YtimogkojklpdnaaGreatDoorPwAP
import Derived.Test.YtimogkojklpdnaaGreatDoorCards
import Derived.Test.YtimogkojklpdnaaGreatDoorTie
import Derived.Deep.DeepHandedRow
set_option linter.unusedVariables false
set_option linter.unusedSimpArgs false
set_option linter.unnecessarySimpa false
namespace Go.Proofs.YtimogkojklpdnaaGreatDoor.Ct
open Go.ChangeShapes Go.WideShapes Go.ChangeAt Go.RowKit Go.Pm
set_option maxRecDepth 100000
set_option maxHeartbeats 2000000
noncomputable def leaves:Nat->DataW Unit->List Value
 |0,_=>[]
 |_+1,.lit (.int k v)=>[.int k v]
 |n+1,.agg ds=>ds.flatMap (leaves n)
 |_,_=>[]
noncomputable def put(h:Array Obj)(x:String×DataW Unit):Array Obj:=match Tryz.prog.globalNamed x.1 with
 |some g=>h.modify g λ
  | .cells _ t fr=>.cells (leaves 4 x.2).toArray t fr
  |o=>o
 |none=>h
noncomputable def u9(os:Os):World:=
 {World.holding Tryz.prog os ⟨#[],#[],[]⟩with heap:=Rows.constraintTrivialUptoRow.laid.foldl put (World.holding Tryz.prog os ⟨#[],#[],[]⟩).heap}
theorem Pd(os:Os):laidMet Tryz.prog Rows.constraintTrivialUptoRow.laid ((u9 os).forCall (λ_ _=>0) ⟨#[],#[.slice none 0 0,.int .i64 0],[]⟩).memory:=
 laidMet_of_run' 8 (by kernel_rfl) (by kernel_rfl)
theorem reads(os:Os){H:Type}(ec:TypeId×Value->H):∃places,DataW.whole ec Tryz.prog ((u9 os).forCall (λ_ _=>0) ⟨#[],#[.slice none 0 0,.int .i64 0],[]⟩).memory Tryz.f5.params.toList Rows.constraintTrivialSpec.vars false #[Value.slice none 0 0,.int .i64 0].toList 8=some ([.nil,.lit (.int .i64 0)],[],places):=
 ⟨[],by kernel_rfl⟩
end Go.Proofs.YtimogkojklpdnaaGreatDoor.Ct
