/- What is cut twice is cut once; others stay as they were, and where they were: for every row of calls and every cut. No condition. -/
import Derived.Test.YthlpjdjipchdkaaRunsCutPA
import Derived.Test.YthlpjdjipchdkaaRows
import Derived.WalkKit
import Derived.ProofKit
import Derived.OpenShut
import Derived.LaidMore
import Derived.Stop.Joined
import Derived.SevenTiedAt
namespace Go.Proofs.Ythlpjdjipchdkaa
open Go Go.Proofs Go.ChangeShapes Go.WideShapes Go.ChangeAt Go.RowKit
set_option linter.unusedVariables false

namespace RunsCutAt

theorem own : ownKnob Try.prog.godebug = none := by kernel_rfl
theorem kids : Kids Try.prog (· < Try.prog.types.size) := kids_rows (by kernel_rfl) (by kernel_rfl)
theorem full : ∀ t e, t < Try.prog.types.size → Try.prog.underlying t = some (.slice e) → 0 < Try.prog.cellsOf e := slices_full_of Try.prog (by kernel_rfl)

def ps : List (Bool × Ythlpjdjipchdkaa.E.Ty) := [(false, .sl false Ythlpjdjipchdkaa.E.ycall), (false, Ythlpjdjipchdkaa.E.ycut)]

set_option maxRecDepth 100000 in
theorem plain (k : Nat) (a : Ythlpjdjipchdkaa.E.denL (ps.map (·.2))) (h : Ythlpjdjipchdkaa.E.inTySL ps a) : Ythlpjdjipchdkaa.E.Hold Try.prog (Ythlpjdjipchdkaa.E.tabOf Try.prog) Ythlpjdjipchdkaa.E.glob0 6 ps [.bool] a (true, ()) () := by
  obtain ⟨a0, a1, u⟩ := a
  exact ((Ythlpjdjipchdkaa.E.fn_ok (k + 10012)).2 6 (by kernel_rfl)).2 (a0, a1, ()) (true, ()) () (Ythlpjdjipchdkaa.E.F_law10RunsCut_true (k + 10000) a0 a1 (by omega))

set_option maxRecDepth 100000 in
theorem lifted (os : Os) (started : os.Started) (H : Type) (enc : TypeId × Value → H) :
    ReturnsInHanded {} Try.checked os 6 .any (Rows.runsCutSpec.pre6 enc Try.prog Try.f6 Rows.runsCutRow.domain false) (Rows.runsCutSpec.post enc Try.prog Try.f6 false true false false) := by
  refine returnsInHanded_of_change_sized (C := Try.checked) own started (by kernel_rfl) Try.func6
    (ChangeSpec.witness6 (enc := enc) (C := Try.checked) false ⟨#[], #[.slice none 0 0, .agg #[.int .i64 0, .int .i64 0, .int .i64 0, .int .i64 0]], []⟩ 8 (by kernel_rfl) (by kernel_rfl) (by kernel_rfl) (by kernel_rfl) (by kernel_rfl)) ?_
  intro W base args ds gs before hval hW _ hsz _
  exact Ythlpjdjipchdkaa.E.law_callsS (Ythlpjdjipchdkaa.E.tabOf_ok Try.prog) (Ythlpjdjipchdkaa.E.bytes_of Try.prog (by kernel_rfl)) kids full (by rw [Try.params6]; decide) (by rw [Try.params6]; kernel_rfl) (by kernel_rfl) Try.underlying4 rfl
    (fun ds h => by
      have h : ds.length = 2 := by rw [h, Try.params6]; rfl
      match ds, h with
      | [d0, d1], _ => rfl) (fun a h => ⟨(), plain 0 a h⟩) W (fun g v hg => by cases hg) base args ds gs before hval hW hsz

theorem over : Rows.RunsCutSaid :=
  OpenClaim.holds_of_wide 6 Try.f6 rfl rfl rfl rfl rfl rfl rfl ⟨rfl, rfl, rfl, rfl, rfl⟩ rfl rfl rfl rfl rfl (by kernel_rfl) Try.func6 (by kernel_rfl)
    (of_decide_eq_true (by kernel_rfl)) (by unfold Func.isWrapper; first | (rw [if_pos (by decide +kernel)]; kernel_rfl) | (rw [if_neg (by decide +kernel)]; exact ⟨rfl, rfl⟩))
    (fun os started H enc _ => lifted os started H enc)

end RunsCutAt

/-- THE STATEMENT -/
theorem runsCut_proved : Rows.RunsCutSaid := RunsCutAt.over
#print axioms runsCut_proved
end Go.Proofs.Ythlpjdjipchdkaa
