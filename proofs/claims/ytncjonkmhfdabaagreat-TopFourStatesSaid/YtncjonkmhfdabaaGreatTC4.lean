/- The card of one law, out of the contracts of the functions that it reaches. -/
import Derived.Test.YtncjonkmhfdabaaGreatLawF
import Derived.Test.YtncjonkmhfdabaaGreatTC4a
import Derived.Test.YtncjonkmhfdabaaGreatTC4j
/- Proved: whatever the input, TopFourStates returns true, and the input reads as it did. No condition stands ahead of it. -/
namespace Go.Proofs.YtncjonkmhfdabaaGreat
open Go Go.RowKit Go.ChangeShapes Go.WideShapes Go.ChangeAt
namespace TopFourStates
theorem laid_met (W : World) : laidMet Tryz.prog Rows.topFourStatesRow.laid W := ⟨[], rfl, List.nodup_nil, fun b off h => by cases h⟩
set_option maxRecDepth 100000 in
theorem lifted (os : Os) (started : os.Started) (H : Type) (enc : TypeId × Value → H) (F : Stop.Interp) :
    ReturnsInHanded {} Tryz.checked os 3 .any ((OpenSpec.ofChange Rows.topFourStatesSpec).preRow enc Tryz.prog Tryz.f3 Rows.topFourStatesRow.domain false Rows.topFourStatesRow.laid) (((OpenSpec.ofChange Rows.topFourStatesSpec).at F).post enc Tryz.prog Tryz.f3 false true false false) := by
  obtain ⟨places, hx⟩ := reads os enc
  refine returnsInHanded_of_row (C := Tryz.checked) (s := OpenSpec.ofChange Rows.topFourStatesSpec) own started (by kernel_rfl) Tryz.func3
    (witness_row_at (enc := enc) (C := Tryz.checked) false (plainWorld os) #[.slice none 0 0, .slice none 0 0] rfl (by kernel_rfl) (by kernel_rfl) (by kernel_rfl)
      (OpenSpec.preRow_of_cond 8 hx (by kernel_rfl) (fun k hk => by cases hk) (by kernel_rfl) (laid_met _))) ?_
  intro W base args ds gs before hval hW _ _ hZ hL hSh _
  exact contract H enc W base args ds gs before hval hW hZ
theorem said : Rows.TopFourStatesSaid :=
  OpenClaim.holds_of_cond 3 Tryz.f3 rfl rfl rfl rfl rfl rfl rfl ⟨rfl, rfl, rfl, rfl, rfl⟩ rfl rfl rfl rfl rfl (by kernel_rfl) Tryz.func3 closed
    (of_decide_eq_true (by kernel_rfl)) (by unfold Func.isWrapper; first | (rw [if_pos (by decide +kernel)]; kernel_rfl) | (rw [if_neg (by decide +kernel)]; exact ⟨rfl, rfl⟩))
    (fun os started H enc _ F => by rw [OpenClaim.pre_eq_preRow]; exact lifted os started H enc F)
end TopFourStates
end Go.Proofs.YtncjonkmhfdabaaGreat
