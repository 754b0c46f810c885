/- CrcPlaces: for every row of texts and all bytes the call returns true and leaves its arguments as they were; no condition. -/
import Derived.Test.YtnffdeokhcojfaaM3
import Derived.Test.YtnffdeokhcojfaaRows
import Derived.WalkKit
import Derived.ProofKit
import Derived.OpenShut
namespace Go.Proofs.Ytnffdeokhcojfaa
open Go Go.Proofs Go.ChangeShapes Go.WideShapes Go.ChangeAt Go.RowKit
set_option linter.unusedVariables false

namespace CrcPlacesAt

theorem own : ownKnob Try.prog.godebug = none := by kernel_rfl
theorem kids : Kids Try.prog (· < Try.prog.types.size) := kids_rows (by kernel_rfl) (by kernel_rfl)
theorem full : ∀ t e, t < Try.prog.types.size → Try.prog.underlying t = some (.slice e) → 0 < Try.prog.cellsOf e := slices_full_of Try.prog (by kernel_rfl)

def ps : List (Bool × E.Ty) := [(true, .sl false (.sl false (.int .u8))), (true, .sl false (.int .u8))]

theorem plain (a : E.denL (ps.map (·.2))) (h : E.inTySL ps a) : ∃ o, E.Hold Try.prog (E.tabOf Try.prog) 9 ps [.bool] a (true, ()) o := by
  obtain ⟨l, b, u⟩ := a
  exact ⟨_, ((E.fn_ok 80000).2 9 rfl).2 _ _ _ (E.F9_eq l b (E.byts_of h.1) (E.byt_of h.2.1.inTy))⟩

set_option maxRecDepth 100000 in
theorem lifted (os : Os) (started : os.Started) (H : Type) (enc : TypeId × Value → H) :
    ReturnsInHanded {} Try.checked os 9 .any (Rows.crcPlacesSpec.pre6 enc Try.prog Try.f9 Rows.crcPlacesRow.domain false) (Rows.crcPlacesSpec.post enc Try.prog Try.f9 false true false false) := by
  refine returnsInHanded_of_change_sized (C := Try.checked) own started (by kernel_rfl) Try.func9
    (ChangeSpec.witness6 (enc := enc) (C := Try.checked) false ⟨#[], #[.slice none 0 0, .slice none 0 0], []⟩ 8 (by kernel_rfl) (by kernel_rfl) (by kernel_rfl) (by kernel_rfl)) ?_
  intro W base args ds gs before hval hW hcnd hsz _
  exact E.law_callsS (E.tabOf_ok Try.prog) (E.bytes_of Try.prog (by kernel_rfl)) kids full (by rw [Try.params9]; decide) (by rw [Try.params9]; kernel_rfl) (by kernel_rfl) Try.underlying4 rfl
    (fun ds h => by
      have h : ds.length = 2 := by rw [h, Try.params9]; rfl
      match ds, h with
      | [d0, d1], _ => rfl) plain W base args ds gs before hval hW hsz

theorem over : Rows.crcPlacesRow.holds Try.pinned (OpenSpec.ofChange Rows.crcPlacesSpec) :=
  OpenClaim.holds_of_wide 9 Try.f9 rfl rfl rfl rfl rfl rfl rfl ⟨rfl, rfl, rfl, rfl, rfl⟩ rfl rfl rfl rfl rfl (by kernel_rfl) Try.func9 (by kernel_rfl)
    (of_decide_eq_true (by kernel_rfl)) (by unfold Func.isWrapper; first | (rw [if_pos (by decide +kernel)]; kernel_rfl) | (rw [if_neg (by decide +kernel)]; exact ⟨rfl, rfl⟩))
    (fun os started H enc _ => lifted os started H enc)

end CrcPlacesAt

/-- THE STATEMENT -/
theorem crcPlaces_proved : Rows.CrcPlacesSaid := CrcPlacesAt.over
#print axioms crcPlaces_proved
end Go.Proofs.Ytnffdeokhcojfaa
