/- The card of one law, out of the contracts of the functions that it reaches. -/
import Derived.Test.YtncjonkmhfdabaaLawD
import Derived.Test.YtncjonkmhfdabaaTC2a
import Derived.Test.YtncjonkmhfdabaaTC2j
/- Proved: whatever the input, TopFacingAnchors returns true, and the input reads as it did. No condition stands ahead of it. -/
namespace Go.Proofs.Ytncjonkmhfdabaa
open Go Go.RowKit Go.ChangeShapes Go.WideShapes Go.ChangeAt
namespace TopFacingAnchors
theorem laid_met (W : World) : laidMet Try.prog Rows.topFacingAnchorsRow.laid W := ⟨[], rfl, List.nodup_nil, fun b off h => by cases h⟩
set_option maxRecDepth 100000 in
theorem lifted (os : Os) (started : os.Started) (H : Type) (enc : TypeId × Value → H) (F : Stop.Interp) :
    ReturnsInHanded {} Try.checked os 4 .any ((OpenSpec.ofChange Rows.topFacingAnchorsSpec).preRow enc Try.prog Try.f4 Rows.topFacingAnchorsRow.domain false Rows.topFacingAnchorsRow.laid) (((OpenSpec.ofChange Rows.topFacingAnchorsSpec).at F).post enc Try.prog Try.f4 false true false false) := by
  obtain ⟨places, hx⟩ := reads os enc
  refine returnsInHanded_of_row (C := Try.checked) (s := OpenSpec.ofChange Rows.topFacingAnchorsSpec) own started (by kernel_rfl) Try.func4
    (witness_row_at (enc := enc) (C := Try.checked) false (plainWorld os) #[.agg #[.slice none 0 0, .slice none 0 0, .slice none 0 0, .int .i64 0, .int .i64 0, .slice none 0 0, .slice none 0 0, .slice none 0 0, .int .i64 0, .int .i64 0, .slice none 0 0], .int .u8 0, .int .u8 0] rfl (by kernel_rfl) (by kernel_rfl) (by kernel_rfl)
      (OpenSpec.preRow_of_cond 8 hx (by kernel_rfl) (fun k hk => by cases hk) (by kernel_rfl) (laid_met _))) ?_
  intro W base args ds gs before hval hW _ _ hZ hL hSh _
  exact contract H enc W base args ds gs before hval hW hZ
theorem said : Rows.TopFacingAnchorsSaid :=
  OpenClaim.holds_of_cond 4 Try.f4 rfl rfl rfl rfl rfl rfl rfl ⟨rfl, rfl, rfl, rfl, rfl⟩ rfl rfl rfl rfl rfl (by kernel_rfl) Try.func4 closed
    (of_decide_eq_true (by kernel_rfl)) (by unfold Func.isWrapper; first | (rw [if_pos (by decide +kernel)]; kernel_rfl) | (rw [if_neg (by decide +kernel)]; exact ⟨rfl, rfl⟩))
    (fun os started H enc _ F => by rw [OpenClaim.pre_eq_preRow]; exact lifted os started H enc F)
end TopFacingAnchors
end Go.Proofs.Ytncjonkmhfdabaa
