/-
  Pm, a part. Conditions: none.
-/
import Derived.Test.YtimogkojklpdnaaGreatDoorPwAQ
import Derived.Test.YtimogkojklpdnaaGreatDoorPwAR
set_option linter.unusedVariables false
set_option linter.unusedSimpArgs false
set_option linter.unnecessarySimpa false
namespace Go.Proofs.YtimogkojklpdnaaGreatDoor.Ct
open Go.ChangeShapes Go.WideShapes Go.ChangeAt Go.RowKit Go.Pm
set_option maxRecDepth 100000
set_option maxHeartbeats 2000000
theorem lifted(K:gB bC.C)(os:Os)(started:os.Started)(H:Type)(ec:TypeId×Value->H)(F:Stop.Interp):
  ReturnsInHanded {} Tryz.checked os 5 .any ((Rows.OpenSpec.upto Rows.constraintTrivialSpec).preRow ec Tryz.prog Tryz.f5 Rows.constraintTrivialUptoRow.domain false Rows.constraintTrivialUptoRow.laid) (((Rows.OpenSpec.upto Rows.constraintTrivialSpec).at F).post ec Tryz.prog Tryz.f5 false true false false):=by
 obtain⟨places,hx⟩:=reads os ec
 refine returnsInHanded_of_row (C:=Tryz.checked) (s:=Rows.OpenSpec.upto Rows.constraintTrivialSpec) own started (by kernel_rfl) Tryz.func5
  (witness_row_at (enc:=ec) (C:=Tryz.checked) false (u9 os) #[.slice none 0 0,.int .i64 0] rfl (by kernel_rfl) (by kernel_rfl) (by kernel_rfl)
   (OpenSpec.preRow_of_cond 8 hx (by kernel_rfl) (λk hk=>by cases hk;kernel_rfl) (by kernel_rfl) (Pd os))) ?_
 intro W base args ds gs before jW hW a1 a2 a3 hL a4 a5
 exact Pb K H ec W base args ds gs before jW hW (by first |exact a1 _ rfl |exact a2 _ rfl |exact a3 _ rfl |exact a4 _ rfl |exact a5 _ rfl)
theorem over(K:gB bC.C):Rows.constraintTrivialUptoRow.holds Tryz.pinned (Rows.OpenSpec.upto Rows.constraintTrivialSpec):=
 OpenClaim.holds_of_cond 5 Tryz.f5 rfl rfl rfl rfl rfl rfl rfl ⟨rfl,rfl,rfl,rfl,rfl⟩ rfl rfl rfl rfl rfl (by kernel_rfl) Tryz.func5 closed
  (of_decide_eq_true (by kernel_rfl)) (by unfold Func.isWrapper;first |(rw[if_pos (by decide+kernel)];kernel_rfl)|(rw[if_neg (by decide+kernel)];exact⟨rfl,rfl⟩))
  (λos started H ec _ F=>by rw[OpenClaim.pre_eq_preRow];exact lifted K os started H ec F)
end Go.Proofs.YtimogkojklpdnaaGreatDoor.Ct
