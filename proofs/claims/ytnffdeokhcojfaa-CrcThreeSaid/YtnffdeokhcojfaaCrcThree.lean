/- CrcThree: for every three texts of bytes the call returns true and leaves its arguments as they were; no condition. -/
import Derived.Test.YtnffdeokhcojfaaM
import Derived.Test.YtnffdeokhcojfaaRows
import Derived.WalkKit
import Derived.ProofKit
import Derived.OpenShut
namespace Go.Proofs.Ytnffdeokhcojfaa
open Go Go.Proofs Go.ChangeShapes Go.WideShapes Go.ChangeAt Go.RowKit
set_option linter.unusedVariables false

namespace CrcThreeAt

theorem own : ownKnob Try.prog.godebug = none := by kernel_rfl
theorem kids : Kids Try.prog (· < Try.prog.types.size) := kids_rows (by kernel_rfl) (by kernel_rfl)
theorem full : ∀ t e, t < Try.prog.types.size → Try.prog.underlying t = some (.slice e) → 0 < Try.prog.cellsOf e := slices_full_of Try.prog (by kernel_rfl)

def ps : List (Bool × E.Ty) := [(true, .sl false (.int .u8)), (true, .sl false (.int .u8)), (true, .sl false (.int .u8))]

theorem plain (a : E.denL (ps.map (·.2))) (h : E.inTyL ps a) : ∃ o, E.Hold Try.prog (E.tabOf Try.prog) 4 ps [.bool] a (true, ()) o := by
  obtain ⟨x, y, z, u⟩ := a
  exact ⟨_, ((E.fn_ok 3101).2 4 rfl).2 _ _ _ (E.F4_eq 0 x y z (E.byt_of h.1) (E.byt_of h.2.1) (E.byt_of h.2.2.1))⟩

set_option maxRecDepth 100000 in
theorem lifted (os : Os) (started : os.Started) (H : Type) (enc : TypeId × Value → H) :
    ReturnsInHanded {} Try.checked os 4 .any (Rows.crcThreeSpec.pre6 enc Try.prog Try.f4 Rows.crcThreeRow.domain false) (Rows.crcThreeSpec.post enc Try.prog Try.f4 false true false false) := by
  refine returnsInHanded_of_change (C := Try.checked) own started (by kernel_rfl) Try.func4
    (ChangeSpec.witness6 (enc := enc) (C := Try.checked) false ⟨#[], #[.slice none 0 0, .slice none 0 0, .slice none 0 0], []⟩ 8 (by kernel_rfl) (by kernel_rfl) (by kernel_rfl) (by kernel_rfl)) ?_
  intro W base args ds gs before hval hW hcnd _
  exact E.law_calls (E.tabOf_ok Try.prog) kids full (by rw [Try.params4]; decide) (by rw [Try.params4]; kernel_rfl) (by kernel_rfl) Try.underlying4 rfl
    (fun ds h => by
      have h : ds.length = 3 := by rw [h, Try.params4]; rfl
      match ds, h with
      | [d0, d1, d2], _ => rfl) plain W base args ds gs before hval hW

theorem over : Rows.crcThreeRow.holds Try.pinned (OpenSpec.ofChange Rows.crcThreeSpec) :=
  OpenClaim.holds_of_wide 4 Try.f4 rfl rfl rfl rfl rfl rfl rfl ⟨rfl, rfl, rfl, rfl, rfl⟩ rfl rfl rfl rfl rfl (by kernel_rfl) Try.func4 (by kernel_rfl)
    (of_decide_eq_true (by kernel_rfl)) (by unfold Func.isWrapper; first | (rw [if_pos (by decide +kernel)]; kernel_rfl) | (rw [if_neg (by decide +kernel)]; exact ⟨rfl, rfl⟩))
    (fun os started H enc _ => lifted os started H enc)

end CrcThreeAt

/-- THE STATEMENT -/
theorem crcThree_proved : Rows.CrcThreeSaid := CrcThreeAt.over
#print axioms crcThree_proved
end Go.Proofs.Ytnffdeokhcojfaa
