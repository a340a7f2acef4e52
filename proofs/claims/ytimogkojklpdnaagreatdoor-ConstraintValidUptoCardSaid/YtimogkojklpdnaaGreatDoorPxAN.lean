/-
  Pm, a part. Conditions: none.
-/
import Derived.Test.YtimogkojklpdnaaGreatDoorPxAM
import Derived.Test.YtimogkojklpdnaaGreatDoorCards
import Derived.Test.YtimogkojklpdnaaGreatDoorTie
import Derived.Deep.DeepWitnessRowRef
set_option linter.unusedVariables false
set_option linter.unusedSimpArgs false
set_option linter.unnecessarySimpa false
set_option linter.unusedSectionVars false
namespace Go.Proofs.YtimogkojklpdnaaGreatDoor.Cv
open Go.ChangeShapes Go.WideShapes Go.ChangeAt Go.RowKit Go.Pm
set_option maxRecDepth 100000
set_option maxHeartbeats 2000000
noncomputable def leaves:Nat->DataW Unit->List Value
 |0,_=>[]
 |_+1,.lit (.int k v)=>[.int k v]
 |n+1,.agg ds=>ds.flatMap (leaves n)
 |_,_=>[]
noncomputable def put(h:Array Obj)(x:String×DataW Unit):Array Obj:=match Tryz.prog.globalNamed x.1 with
 |some g=>h.modify g λ
  | .cells _ t fr=>.cells (leaves 4 x.2).toArray t fr
  |o=>o
 |none=>h
noncomputable def xp(os:Os):Array Obj:=Rows.constraintValidUptoRow.laid.foldl put (World.holding Tryz.prog os ⟨#[],#[],[]⟩).heap
noncomputable def BH:Array Value:=#[.string ⟨#[97,110,121]⟩,.string ⟨#[97,103,101,110,116]⟩,.string ⟨#[110,111,110,99,101]⟩,.string ⟨#[107,101,121]⟩,.string ⟨#[100,97,116,97]⟩,.string ⟨#[116,97,103]⟩]
noncomputable def BI(os:Os):Array Obj:=(xp os).modify 0 λ
 | .cells _ t fr=>.cells #[.slice (some ⟨(xp os).size,0,none⟩) 6 6] t fr
 |o=>o
noncomputable def pe(os:Os):World:=
 {World.holding Tryz.prog os ⟨#[],#[],[]⟩with heap:=(BI os).push (.cells BH 9 (0,0))}
theorem DY(os:Os):laidMet Tryz.prog Rows.constraintValidUptoRow.laid ((pe os).forCall (λ_ _=>0) ⟨#[],#[.slice none 0 0],[]⟩).memory:=
 laidMet_of_run' 8 (by kernel_rfl) (by kernel_rfl)
theorem reads(os:Os){H:Type}(ec:TypeId×Value->H):∃places,DataW.whole ec Tryz.prog ((pe os).forCall (λ_ _=>0) ⟨#[],#[.slice none 0 0],[]⟩).memory Tryz.f9.params.toList Rows.constraintValidSpec.vars false #[Value.slice none 0 0].toList 8=some ([.nil],[],places):=
 ⟨[],by kernel_rfl⟩
end Go.Proofs.YtimogkojklpdnaaGreatDoor.Cv
