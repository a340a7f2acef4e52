/-
  Pm, a part. Conditions: none.
-/
import Derived.Test.YtiipafafbpaaoaaGreatDoorPsAR
import Derived.Test.YtiipafafbpaaoaaGreatDoorCards
import Derived.Test.YtiipafafbpaaoaaGreatDoorTie
import Derived.Deep.DeepWitnessRowRef
set_option linter.unusedVariables false
set_option linter.unusedSimpArgs false
set_option linter.unnecessarySimpa false
set_option linter.unusedSectionVars false
namespace Go.Proofs.YtiipafafbpaaoaaGreatDoor.Sm
open Go.ChangeShapes Go.WideShapes Go.ChangeAt Go.RowKit Go.Pm
set_option maxRecDepth 100000
set_option maxHeartbeats 2000000
noncomputable def leaves:Nat->DataW Unit->List Value
 |0,_=>[]
 |_+1,.lit (.int k v)=>[.int k v]
 |n+1,.agg z=>z.flatMap (leaves n)
 |_,_=>[]
noncomputable def put(h:Array Obj)(x:String×DataW Unit):Array Obj:=match Tryz.prog.globalNamed x.1 with
 |some g=>h.modify g λ
  | .cells _ t X=>.cells (leaves 4 x.2).toArray t X
  |o=>o
 |none=>h
noncomputable def Hr(G:Os):Array Obj:=Rows.simplifyMeasureUptoRow.laid.foldl put (World.holding Tryz.prog G ⟨#[],#[],[]⟩).heap
noncomputable def OF:Array Value:=#[.string ⟨#[97,110,121]⟩,.string ⟨#[97,103,101,110,116]⟩,.string ⟨#[110,111,110,99,101]⟩,.string ⟨#[107,101,121]⟩,.string ⟨#[100,97,116,97]⟩,.string ⟨#[116,97,103]⟩]
noncomputable def OG(G:Os):Array Obj:=(Hr G).modify 0 λ
 | .cells _ t X=>.cells #[.slice (some ⟨(Hr G).size,0,none⟩) 6 6] t X
 |o=>o
noncomputable def xP(G:Os):World:=
 {World.holding Tryz.prog G ⟨#[],#[],[]⟩with heap:=(OG G).push (.cells OF 9 (0,0))}
theorem SH(G:Os):laidMet Tryz.prog Rows.simplifyMeasureUptoRow.laid ((xP G).forCall (λ_ _=>0) ⟨#[],#[.slice none 0 0],[]⟩).memory:=
 laidMet_of_run' 8 (by kernel_rfl) (by kernel_rfl)
theorem reads(G:Os){H:Type}(i:TypeId×Value->H):∃P,DataW.whole i Tryz.prog ((xP G).forCall (λ_ _=>0) ⟨#[],#[.slice none 0 0],[]⟩).memory Tryz.f3.params.toList Rows.simplifyMeasureSpec.vars false #[Value.slice none 0 0].toList 8=some ([.nil],[],P):=
 ⟨[],by kernel_rfl⟩
end Go.Proofs.YtiipafafbpaaoaaGreatDoor.Sm
