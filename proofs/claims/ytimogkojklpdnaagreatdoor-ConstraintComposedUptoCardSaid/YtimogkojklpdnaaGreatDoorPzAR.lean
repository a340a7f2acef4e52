/-
  A part of the library Pm (joined by program). Conditions: none.
-/
import Derived.Test.YtimogkojklpdnaaGreatDoorPzAA
import Derived.Test.YtimogkojklpdnaaGreatDoorPzAP
import Derived.Test.YtimogkojklpdnaaGreatDoorPzAQ
set_option linter.unusedVariables false
set_option linter.unusedSimpArgs false
set_option linter.unnecessarySimpa false
namespace Go.Proofs.YtimogkojklpdnaaGreatDoor.Cq
open Go.ChangeShapes Go.WideShapes Go.ChangeAt Go.RowKit Go.Pm
set_option maxRecDepth 100000
set_option maxHeartbeats 2000000
theorem lifted(K:fP bO.C)(os:Os)(started:os.Started)(H:Type)(ec:TypeId×Value->H)(F:Stop.Interp):
  ReturnsInHanded {} Tryz.checked os 8 .any ((Rows.OpenSpec.upto Rows.constraintComposedSpec).preRow ec Tryz.prog Tryz.f8 Rows.constraintComposedUptoRow.domain false Rows.constraintComposedUptoRow.laid) (((Rows.OpenSpec.upto Rows.constraintComposedSpec).at F).post ec Tryz.prog Tryz.f8 false true false false):=by
 obtain⟨places,hx⟩:=reads os ec
 refine returnsInHanded_of_row (C:=Tryz.checked) (s:=Rows.OpenSpec.upto Rows.constraintComposedSpec) own started (by kernel_rfl) Tryz.func8
  (witness_row_at (enc:=ec) (C:=Tryz.checked) false (sJ os) #[.slice none 0 0,.slice none 0 0,.int .u8 0] rfl (by kernel_rfl) (by kernel_rfl) (by kernel_rfl)
   (OpenSpec.preRow_of_cond 8 hx (by kernel_rfl) (λk hk=>by cases hk;kernel_rfl) (by kernel_rfl) (Lm os))) ?_
 intro W base args ds gs before jf hW a1 a2 a3 hL a4 a5
 exact Lk K H ec W base args ds gs before jf hW (by first |exact a1 _ rfl |exact a2 _ rfl |exact a3 _ rfl |exact a4 _ rfl |exact a5 _ rfl)
theorem over(K:fP bO.C):Rows.constraintComposedUptoRow.holds Tryz.pinned (Rows.OpenSpec.upto Rows.constraintComposedSpec):=
 OpenClaim.holds_of_cond 8 Tryz.f8 rfl rfl rfl rfl rfl rfl rfl ⟨rfl,rfl,rfl,rfl,rfl⟩ rfl rfl rfl rfl rfl (by kernel_rfl) Tryz.func8 closed
  (of_decide_eq_true (by kernel_rfl)) (by unfold Func.isWrapper;first |(rw[if_pos (by decide+kernel)];kernel_rfl)|(rw[if_neg (by decide+kernel)];exact⟨rfl,rfl⟩))
  (λos started H ec _ F=>by rw[OpenClaim.pre_eq_preRow];exact lifted K os started H ec F)
end Go.Proofs.YtimogkojklpdnaaGreatDoor.Cq
