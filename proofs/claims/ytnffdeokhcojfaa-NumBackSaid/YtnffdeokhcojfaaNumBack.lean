/- NumBack: for every number and every text the call returns true and leaves its arguments as they were; no condition. -/
import Derived.Test.YtnffdeokhcojfaaN2
import Derived.Test.YtnffdeokhcojfaaRows
import Derived.WalkKit
import Derived.ProofKit
import Derived.OpenShut
namespace Go.Proofs.Ytnffdeokhcojfaa
open Go Go.Proofs Go.ChangeShapes Go.WideShapes Go.ChangeAt Go.RowKit
set_option linter.unusedVariables false

namespace NumBackAt

theorem own : ownKnob Try.prog.godebug = none := by kernel_rfl
theorem kids : Kids Try.prog (· < Try.prog.types.size) := kids_rows (by kernel_rfl) (by kernel_rfl)
theorem full : ∀ t e, t < Try.prog.types.size → Try.prog.underlying t = some (.slice e) → 0 < Try.prog.cellsOf e := slices_full_of Try.prog (by kernel_rfl)

def ps : List (Bool × E.Ty) := [(true, .int .i64), (true, .str)]

theorem plain (a : E.denL (ps.map (·.2))) (h : E.inTyL ps a) : ∃ o, E.Hold Try.prog (E.tabOf Try.prog) 11 ps [.bool] a (true, ()) o := by
  obtain ⟨n, s, u⟩ := a
  exact ⟨_, ((E.fn_ok 50).2 11 rfl).2 _ _ _ (E.F11_eq 0 n s)⟩

set_option maxRecDepth 100000 in
theorem lifted (os : Os) (started : os.Started) (H : Type) (enc : TypeId × Value → H) :
    ReturnsInHanded {} Try.checked os 11 .any (Rows.numBackSpec.pre6 enc Try.prog Try.f11 Rows.numBackRow.domain false) (Rows.numBackSpec.post enc Try.prog Try.f11 false true false false) := by
  refine returnsInHanded_of_change (C := Try.checked) own started (by kernel_rfl) Try.func11
    (ChangeSpec.witness6 (enc := enc) (C := Try.checked) false ⟨#[], #[.int .i64 0, .string ⟨#[]⟩], []⟩ 8 (by kernel_rfl) (by kernel_rfl) (by kernel_rfl) (by kernel_rfl)) ?_
  intro W base args ds gs before hval hW hcnd _
  exact E.law_calls (E.tabOf_ok Try.prog) kids full (by rw [Try.params11]; decide) (by rw [Try.params11]; kernel_rfl) (by kernel_rfl) Try.underlying4 rfl
    (fun ds h => by
      have h : ds.length = 2 := by rw [h, Try.params11]; rfl
      match ds, h with
      | [d0, d1], _ => rfl) plain W base args ds gs before hval hW

theorem over : Rows.numBackRow.holds Try.pinned (OpenSpec.ofChange Rows.numBackSpec) :=
  OpenClaim.holds_of_wide 11 Try.f11 rfl rfl rfl rfl rfl rfl rfl ⟨rfl, rfl, rfl, rfl, rfl⟩ rfl rfl rfl rfl rfl (by kernel_rfl) Try.func11 (by kernel_rfl)
    (of_decide_eq_true (by kernel_rfl)) (by unfold Func.isWrapper; first | (rw [if_pos (by decide +kernel)]; kernel_rfl) | (rw [if_neg (by decide +kernel)]; exact ⟨rfl, rfl⟩))
    (fun os started H enc _ => lifted os started H enc)

end NumBackAt

/-- THE STATEMENT -/
theorem numBack_proved : Rows.NumBackSaid := NumBackAt.over
#print axioms numBack_proved
end Go.Proofs.Ytnffdeokhcojfaa
