/-
  Pm, a part. Conditions: none.
-/
import Derived.Test.YtimogkojklpdnaaGreatDoorPxAN
import Derived.Test.YtimogkojklpdnaaGreatDoorPxAO
set_option linter.unusedVariables false
set_option linter.unusedSimpArgs false
set_option linter.unnecessarySimpa false
set_option linter.unusedSectionVars false
namespace Go.Proofs.YtimogkojklpdnaaGreatDoor.Cv
open Go.ChangeShapes Go.WideShapes Go.ChangeAt Go.RowKit Go.Pm
set_option maxRecDepth 100000
set_option maxHeartbeats 2000000
theorem lifted(K:@cj ⟨False⟩ Fh.C)(os:Os)(started:os.Started)(H:Type)(ec:TypeId×Value->H)(F:Stop.Interp):
  ReturnsInHanded {} Tryz.checked os 9 .any ((Rows.OpenSpec.upto Rows.constraintValidSpec).preRow ec Tryz.prog Tryz.f9 Rows.constraintValidUptoRow.domain false Rows.constraintValidUptoRow.laid) (((Rows.OpenSpec.upto Rows.constraintValidSpec).at F).post ec Tryz.prog Tryz.f9 false true false false):=by
 obtain⟨places,hx⟩:=reads os ec
 refine returnsInHanded_of_row (C:=Tryz.checked) (s:=Rows.OpenSpec.upto Rows.constraintValidSpec) own started (by kernel_rfl) Tryz.func9
  (witness_row_atRef (enc:=ec) (C:=Tryz.checked) false (pe os) #[.slice none 0 0] rfl (by kernel_rfl) (by kernel_rfl) (by kernel_rfl)
   (OpenSpec.preRow_of_cond 8 hx (by kernel_rfl) (λk hk=>by cases hk;kernel_rfl) (by kernel_rfl) (DY os))) ?_
 intro W base args ds gs before gC hW a1 a2 a3 hL a4 a5
 exact DW K H ec W base args ds gs before gC hW (by first |exact a1 _ rfl |exact a2 _ rfl |exact a3 _ rfl |exact a4 _ rfl |exact a5 _ rfl) (DX hL)
theorem over(K:@cj ⟨False⟩ Fh.C):Rows.constraintValidUptoRow.holds Tryz.pinned (Rows.OpenSpec.upto Rows.constraintValidSpec):=
 OpenClaim.holds_of_cond 9 Tryz.f9 rfl rfl rfl rfl rfl rfl rfl ⟨rfl,rfl,rfl,rfl,rfl⟩ rfl rfl rfl rfl rfl (by kernel_rfl) Tryz.func9 closed
  (of_decide_eq_true (by kernel_rfl)) (by unfold Func.isWrapper;first |(rw[if_pos (by decide+kernel)];kernel_rfl)|(rw[if_neg (by decide+kernel)];exact⟨rfl,rfl⟩))
  (λos started H ec _ F=>by rw[OpenClaim.pre_eq_preRow];exact lifted K os started H ec F)
end Go.Proofs.YtimogkojklpdnaaGreatDoor.Cv
