/- CrcAnswers: for all bytes and every number the call returns true and leaves its arguments as they were; no condition. -/
import Derived.Test.YtnffdeokhcojfaaM2
import Derived.Test.YtnffdeokhcojfaaRows
import Derived.WalkKit
import Derived.ProofKit
import Derived.OpenShut
namespace Go.Proofs.Ytnffdeokhcojfaa
open Go Go.Proofs Go.ChangeShapes Go.WideShapes Go.ChangeAt Go.RowKit
set_option linter.unusedVariables false

namespace CrcAnswersAt

theorem own : ownKnob Try.prog.godebug = none := by kernel_rfl
theorem kids : Kids Try.prog (· < Try.prog.types.size) := kids_rows (by kernel_rfl) (by kernel_rfl)
theorem full : ∀ t e, t < Try.prog.types.size → Try.prog.underlying t = some (.slice e) → 0 < Try.prog.cellsOf e := slices_full_of Try.prog (by kernel_rfl)

def ps : List (Bool × E.Ty) := [(true, .sl false (.int .u8)), (true, .int .i64)]

theorem plain (a : E.denL (ps.map (·.2))) (h : E.inTyL ps a) : ∃ o, E.Hold Try.prog (E.tabOf Try.prog) 7 ps [.bool] a (true, ()) o := by
  obtain ⟨b, n, u⟩ := a
  exact ⟨_, ((E.fn_ok 20000).2 7 rfl).2 _ _ _ (E.F7_eq b n (E.byt_of h.1))⟩

set_option maxRecDepth 100000 in
theorem lifted (os : Os) (started : os.Started) (H : Type) (enc : TypeId × Value → H) :
    ReturnsInHanded {} Try.checked os 7 .any (Rows.crcAnswersSpec.pre6 enc Try.prog Try.f7 Rows.crcAnswersRow.domain false) (Rows.crcAnswersSpec.post enc Try.prog Try.f7 false true false false) := by
  refine returnsInHanded_of_change (C := Try.checked) own started (by kernel_rfl) Try.func7
    (ChangeSpec.witness6 (enc := enc) (C := Try.checked) false ⟨#[], #[.slice none 0 0, .int .i64 0], []⟩ 8 (by kernel_rfl) (by kernel_rfl) (by kernel_rfl) (by kernel_rfl)) ?_
  intro W base args ds gs before hval hW hcnd _
  exact E.law_calls (E.tabOf_ok Try.prog) kids full (by rw [Try.params7]; decide) (by rw [Try.params7]; kernel_rfl) (by kernel_rfl) Try.underlying4 rfl
    (fun ds h => by
      have h : ds.length = 2 := by rw [h, Try.params7]; rfl
      match ds, h with
      | [d0, d1], _ => rfl) plain W base args ds gs before hval hW

theorem over : Rows.crcAnswersRow.holds Try.pinned (OpenSpec.ofChange Rows.crcAnswersSpec) :=
  OpenClaim.holds_of_wide 7 Try.f7 rfl rfl rfl rfl rfl rfl rfl ⟨rfl, rfl, rfl, rfl, rfl⟩ rfl rfl rfl rfl rfl (by kernel_rfl) Try.func7 (by kernel_rfl)
    (of_decide_eq_true (by kernel_rfl)) (by unfold Func.isWrapper; first | (rw [if_pos (by decide +kernel)]; kernel_rfl) | (rw [if_neg (by decide +kernel)]; exact ⟨rfl, rfl⟩))
    (fun os started H enc _ => lifted os started H enc)

end CrcAnswersAt

/-- THE STATEMENT -/
theorem crcAnswers_proved : Rows.CrcAnswersSaid := CrcAnswersAt.over
#print axioms crcAnswers_proved
end Go.Proofs.Ytnffdeokhcojfaa
