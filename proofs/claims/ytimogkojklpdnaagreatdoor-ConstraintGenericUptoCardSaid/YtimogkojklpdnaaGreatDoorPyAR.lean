/-
  Pm, a part. Conditions: none.
-/
import Derived.Test.YtimogkojklpdnaaGreatDoorPyAP
import Derived.Test.YtimogkojklpdnaaGreatDoorPyAQ
set_option linter.unusedVariables false
set_option linter.unusedSimpArgs false
set_option linter.unnecessarySimpa false
set_option linter.unusedSectionVars false
namespace Go.Proofs.YtimogkojklpdnaaGreatDoor.Cg
open Go.ChangeShapes Go.WideShapes Go.ChangeAt Go.RowKit Go.Pm
set_option maxRecDepth 100000
set_option maxHeartbeats 2000000
theorem lifted(K:eY vD.C)(os:Os)(started:os.Started)(H:Type)(ec:TypeId×Value->H)(F:Stop.Interp):
  ReturnsInHanded {} Tryz.checked os 10 .any ((Rows.OpenSpec.upto Rows.constraintGenericSpec).preRow ec Tryz.prog Tryz.f10 Rows.constraintGenericUptoRow.domain false Rows.constraintGenericUptoRow.laid) (((Rows.OpenSpec.upto Rows.constraintGenericSpec).at F).post ec Tryz.prog Tryz.f10 false true false false):=by
 obtain⟨places,hx⟩:=reads os ec
 refine returnsInHanded_of_row (C:=Tryz.checked) (s:=Rows.OpenSpec.upto Rows.constraintGenericSpec) own started (by kernel_rfl) Tryz.func10
  (witness_row_at (enc:=ec) (C:=Tryz.checked) false (uu os) #[.slice none 0 0,.agg #[.slice none 0 0,.slice none 0 0]] rfl (by kernel_rfl) (by kernel_rfl) (by kernel_rfl)
   (OpenSpec.preRow_of_cond 8 hx (by kernel_rfl) (λk hk=>by cases hk;kernel_rfl) (by kernel_rfl) (Ot os))) ?_
 intro W base args ds gs before jJ hW a1 a2 a3 hL a4 a5
 exact Om K H ec W base args ds gs before jJ hW (by first |exact a1 _ rfl |exact a2 _ rfl |exact a3 _ rfl |exact a4 _ rfl |exact a5 _ rfl)
theorem over(K:eY vD.C):Rows.constraintGenericUptoRow.holds Tryz.pinned (Rows.OpenSpec.upto Rows.constraintGenericSpec):=
 OpenClaim.holds_of_cond 10 Tryz.f10 rfl rfl rfl rfl rfl rfl rfl ⟨rfl,rfl,rfl,rfl,rfl⟩ rfl rfl rfl rfl rfl (by kernel_rfl) Tryz.func10 closed
  (of_decide_eq_true (by kernel_rfl)) (by unfold Func.isWrapper;first |(rw[if_pos (by decide+kernel)];kernel_rfl)|(rw[if_neg (by decide+kernel)];exact⟨rfl,rfl⟩))
  (λos started H ec _ F=>by rw[OpenClaim.pre_eq_preRow];exact lifted K os started H ec F)
end Go.Proofs.YtimogkojklpdnaaGreatDoor.Cg
