/-
  Pm, a part. Conditions: none.
-/
import Derived.Test.YtimogkojklpdnaaGreatDoorPxAQ
import Derived.Test.YtimogkojklpdnaaGreatDoorPxAR
set_option linter.unusedVariables false
set_option linter.unusedSimpArgs false
set_option linter.unnecessarySimpa false
namespace Go.Proofs.YtimogkojklpdnaaGreatDoor.Cd
open Go.ChangeShapes Go.WideShapes Go.ChangeAt Go.RowKit Go.Pm
set_option maxRecDepth 100000
set_option maxHeartbeats 2000000
theorem lifted(K:gu bE.C)(os:Os)(started:os.Started)(H:Type)(ec:TypeId×Value->H)(F:Stop.Interp):
  ReturnsInHanded {} Tryz.checked os 4 .any ((Rows.OpenSpec.upto Rows.constraintDescribedSpec).preRow ec Tryz.prog Tryz.f4 Rows.constraintDescribedUptoRow.domain false Rows.constraintDescribedUptoRow.laid) (((Rows.OpenSpec.upto Rows.constraintDescribedSpec).at F).post ec Tryz.prog Tryz.f4 false true false false):=by
 obtain⟨places,hx⟩:=reads os ec
 refine returnsInHanded_of_row (C:=Tryz.checked) (s:=Rows.OpenSpec.upto Rows.constraintDescribedSpec) own started (by kernel_rfl) Tryz.func4
  (witness_row_at (enc:=ec) (C:=Tryz.checked) false (uO os) #[.slice none 0 0,.slice none 0 0] rfl (by kernel_rfl) (by kernel_rfl) (by kernel_rfl)
   (OpenSpec.preRow_of_cond 8 hx (by kernel_rfl) (λk hk=>by cases hk;kernel_rfl) (by kernel_rfl) (Ox os))) ?_
 intro W base args ds gs before jQ hW a1 a2 a3 hL a4 a5
 exact Ov K H ec W base args ds gs before jQ hW (by first |exact a1 _ rfl |exact a2 _ rfl |exact a3 _ rfl |exact a4 _ rfl |exact a5 _ rfl)
theorem over(K:gu bE.C):Rows.constraintDescribedUptoRow.holds Tryz.pinned (Rows.OpenSpec.upto Rows.constraintDescribedSpec):=
 OpenClaim.holds_of_cond 4 Tryz.f4 rfl rfl rfl rfl rfl rfl rfl ⟨rfl,rfl,rfl,rfl,rfl⟩ rfl rfl rfl rfl rfl (by kernel_rfl) Tryz.func4 closed
  (of_decide_eq_true (by kernel_rfl)) (by unfold Func.isWrapper;first |(rw[if_pos (by decide+kernel)];kernel_rfl)|(rw[if_neg (by decide+kernel)];exact⟨rfl,rfl⟩))
  (λos started H ec _ F=>by rw[OpenClaim.pre_eq_preRow];exact lifted K os started H ec F)
end Go.Proofs.YtimogkojklpdnaaGreatDoor.Cd
