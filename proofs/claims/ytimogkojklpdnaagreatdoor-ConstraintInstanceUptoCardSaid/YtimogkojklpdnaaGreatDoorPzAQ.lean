/-
  A part of the library Pm and its contracts (joined by program): PmLinkI3. Conditions: none.
-/
import Derived.Test.YtimogkojklpdnaaGreatDoorPzAO
import Derived.Test.YtimogkojklpdnaaGreatDoorPzAP
set_option linter.unusedVariables false
set_option linter.unusedSimpArgs false
section
set_option maxRecDepth 100000
set_option maxHeartbeats 2000000
namespace Go.Proofs.YtimogkojklpdnaaGreatDoor.Ci
open Go.ChangeShapes Go.WideShapes Go.ChangeAt Go.RowKit Go.Pm
theorem lifted (K:CfgOk Nine.C) (os:Os) (started:os.Started) (H:Type) (ec:TypeId × Value→H) (F:Stop.Interp) :
  ReturnsInHanded {} Tryz.checked os 7 .any ((Rows.OpenSpec.upto Rows.constraintInstanceSpec).preRow ec Tryz.prog Tryz.f7 Rows.constraintInstanceUptoRow.domain false Rows.constraintInstanceUptoRow.laid) (((Rows.OpenSpec.upto Rows.constraintInstanceSpec).at F).post ec Tryz.prog Tryz.f7 false true false false):=by
 obtain ⟨places,hx⟩:=reads os ec
 refine returnsInHanded_of_row (C:=Tryz.checked) (s:=Rows.OpenSpec.upto Rows.constraintInstanceSpec) own started (by kernel_rfl) Tryz.func7
  (witness_row_at (enc:=ec) (C:=Tryz.checked) false (laidWorld os) #[.slice none 0 0,.slice none 0 0] rfl (by kernel_rfl) (by kernel_rfl) (by kernel_rfl)
   (OpenSpec.preRow_of_cond 8 hx (by kernel_rfl) (fun k hk=>by cases hk;kernel_rfl) (by kernel_rfl) (laid_met os))) ?_
 intro W base args ds gs before hval hW a1 a2 a3 hL a4 a5
 exact contract K H ec W base args ds gs before hval hW (by first | exact a1 _ rfl | exact a2 _ rfl | exact a3 _ rfl | exact a4 _ rfl | exact a5 _ rfl)
theorem over (K:CfgOk Nine.C):Rows.constraintInstanceUptoRow.holds Tryz.pinned (Rows.OpenSpec.upto Rows.constraintInstanceSpec):=
 OpenClaim.holds_of_cond 7 Tryz.f7 rfl rfl rfl rfl rfl rfl rfl ⟨rfl,rfl,rfl,rfl,rfl⟩ rfl rfl rfl rfl rfl (by kernel_rfl) Tryz.func7 closed
  (of_decide_eq_true (by kernel_rfl)) (by unfold Func.isWrapper;first | (rw [if_pos (by decide +kernel)];kernel_rfl) | (rw [if_neg (by decide +kernel)];exact ⟨rfl,rfl⟩))
  (fun os started H ec _ F=>by rw [OpenClaim.pre_eq_preRow];exact lifted K os started H ec F)
end Go.Proofs.YtimogkojklpdnaaGreatDoor.Ci
end
