/-
  Pm, a part. Conditions: none.
-/
import Derived.Test.YtiipafafbpaaoaaGreatDoorPsAS
import Derived.Test.YtiipafafbpaaoaaGreatDoorPsAT
set_option linter.unusedVariables false
set_option linter.unusedSimpArgs false
set_option linter.unnecessarySimpa false
set_option linter.unusedSectionVars false
namespace Go.Proofs.YtiipafafbpaaoaaGreatDoor.Sm
open Go.ChangeShapes Go.WideShapes Go.ChangeAt Go.RowKit Go.Pm
set_option maxRecDepth 100000
set_option maxHeartbeats 2000000
theorem lifted(K:@dn ⟨False⟩ Wu.C)(G:Os)(e:G.Started)(H:Type)(i:TypeId×Value->H)(F:Stop.Interp):
  ReturnsInHanded {} Tryz.checked G 3 .any ((Rows.OpenSpec.upto Rows.simplifyMeasureSpec).preRow i Tryz.prog Tryz.f3 Rows.simplifyMeasureUptoRow.domain false Rows.simplifyMeasureUptoRow.laid) (((Rows.OpenSpec.upto Rows.simplifyMeasureSpec).at F).post i Tryz.prog Tryz.f3 false true false false):=by
 obtain⟨P,U⟩:=reads G i
 refine returnsInHanded_of_row (C:=Tryz.checked) (s:=Rows.OpenSpec.upto Rows.simplifyMeasureSpec) own e (by kernel_rfl) Tryz.func3
  (witness_row_atRef (enc:=i) (C:=Tryz.checked) false (xP G) #[.slice none 0 0] rfl (by kernel_rfl) (by kernel_rfl) (by kernel_rfl)
   (OpenSpec.preRow_of_cond 8 U (by kernel_rfl) (λk g=>by cases g;kernel_rfl) (by kernel_rfl) (SH G))) ?_
 intro W b V z d B X h f S O a N Z
 exact SF K H i W b V z d B X h (by first |exact f _ rfl |exact S _ rfl |exact O _ rfl |exact N _ rfl |exact Z _ rfl) (SG a)
theorem over(K:@dn ⟨False⟩ Wu.C):Rows.simplifyMeasureUptoRow.holds Tryz.pinned (Rows.OpenSpec.upto Rows.simplifyMeasureSpec):=
 OpenClaim.holds_of_cond 3 Tryz.f3 rfl rfl rfl rfl rfl rfl rfl ⟨rfl,rfl,rfl,rfl,rfl⟩ rfl rfl rfl rfl rfl (by kernel_rfl) Tryz.func3 closed
  (of_decide_eq_true (by kernel_rfl)) (by unfold Func.isWrapper;first |(rw[if_pos (by decide+kernel)];kernel_rfl)|(rw[if_neg (by decide+kernel)];exact⟨rfl,rfl⟩))
  (λG e H i _ F=>by rw[OpenClaim.pre_eq_preRow];exact lifted K G e H i F)
end Go.Proofs.YtiipafafbpaaoaaGreatDoor.Sm
