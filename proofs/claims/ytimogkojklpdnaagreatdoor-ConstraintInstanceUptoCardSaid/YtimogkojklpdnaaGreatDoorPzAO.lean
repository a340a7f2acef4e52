/-
  A part of the library Pm and its contracts (joined by program): PmLinkI2. Conditions: none.
-/
import Derived.Test.YtimogkojklpdnaaGreatDoorPzAN
import Derived.Test.YtimogkojklpdnaaGreatDoorCards
import Derived.Test.YtimogkojklpdnaaGreatDoorTie
import Derived.Deep.DeepHandedRow
set_option linter.unusedVariables false
set_option linter.unusedSimpArgs false
section
set_option maxRecDepth 100000
set_option maxHeartbeats 2000000
namespace Go.Proofs.YtimogkojklpdnaaGreatDoor.Ci
open Go.ChangeShapes Go.WideShapes Go.ChangeAt Go.RowKit Go.Pm
noncomputable def leaves:Nat→DataW Unit→List Value
 | 0,_=>[]
 | _+1,.lit (.int k v)=>[.int k v]
 | n+1,.agg ds=>ds.flatMap (leaves n)
 | _,_=>[]
noncomputable def put (h:Array Obj) (x:String × DataW Unit):Array Obj:=match Tryz.prog.globalNamed x.1 with
 | some g=>h.modify g fun
  | .cells _ t fr=>.cells (leaves 4 x.2).toArray t fr
  | o=>o
 | none=>h
noncomputable def laidWorld (os:Os):World:=
 { World.holding Tryz.prog os ⟨#[],#[],[]⟩ with heap:=Rows.constraintInstanceUptoRow.laid.foldl put (World.holding Tryz.prog os ⟨#[],#[],[]⟩).heap }
theorem laid_met (os:Os):laidMet Tryz.prog Rows.constraintInstanceUptoRow.laid ((laidWorld os).forCall (fun _ _=>0) ⟨#[],#[.slice none 0 0,.slice none 0 0],[]⟩).memory:=
 laidMet_of_run' 8 (by kernel_rfl) (by kernel_rfl)
theorem reads (os:Os) {H:Type} (ec:TypeId × Value→H):∃ places,DataW.whole ec Tryz.prog ((laidWorld os).forCall (fun _ _=>0) ⟨#[],#[.slice none 0 0,.slice none 0 0],[]⟩).memory Tryz.f7.params.toList Rows.constraintInstanceSpec.vars false #[Value.slice none 0 0,.slice none 0 0].toList 8=some ([.nil,.nil],[],places):=
 ⟨[],by kernel_rfl⟩
end Go.Proofs.YtimogkojklpdnaaGreatDoor.Ci
end
