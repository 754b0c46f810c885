/- Every row of calls is answered as the document says, and leaves its runs: for every row of calls, every place and every character. No condition. -/
import Derived.Test.YthlpjdjipchdkaaRunsCallsPB
import Derived.Test.YthlpjdjipchdkaaRows
import Derived.WalkKit
import Derived.ProofKit
import Derived.OpenShut
import Derived.LaidMore
import Derived.Stop.Joined
import Derived.SevenTiedAt
namespace Go.Proofs.Ythlpjdjipchdkaa
open Go Go.Proofs Go.ChangeShapes Go.WideShapes Go.ChangeAt Go.RowKit
set_option linter.unusedVariables false

namespace RunsCallsAt

theorem own : ownKnob Try.prog.godebug = none := by kernel_rfl
theorem kids : Kids Try.prog (· < Try.prog.types.size) := kids_rows (by kernel_rfl) (by kernel_rfl)
theorem full : ∀ t e, t < Try.prog.types.size → Try.prog.underlying t = some (.slice e) → 0 < Try.prog.cellsOf e := slices_full_of Try.prog (by kernel_rfl)

def ps : List (Bool × Ythlpjdjipchdkaa.E.Ty) := [(false, .sl false Ythlpjdjipchdkaa.E.ycall), (false, Ythlpjdjipchdkaa.E.i64), (false, Ythlpjdjipchdkaa.E.ychar)]

set_option maxRecDepth 100000 in
theorem plain (k : Nat) (a : Ythlpjdjipchdkaa.E.denL (ps.map (·.2))) (h : Ythlpjdjipchdkaa.E.inTySL ps a) : Ythlpjdjipchdkaa.E.Hold Try.prog (Ythlpjdjipchdkaa.E.tabOf Try.prog) Ythlpjdjipchdkaa.E.glob0 4 ps [.bool] a (true, ()) () := by
  obtain ⟨a0, a1, a2, u⟩ := a
  exact ((Ythlpjdjipchdkaa.E.fn_ok (k + 10012)).2 4 (by kernel_rfl)).2 (a0, a1, a2, ()) (true, ()) () (Ythlpjdjipchdkaa.E.F_law10RunsCalls_true (k + 10000) a0 a1 a2 (by have := h.2.1; simp [Ythlpjdjipchdkaa.E.inTyS, IntKind.min, IntKind.max, IntKind.signed, IntKind.bits] at this; omega) (by omega))

set_option maxRecDepth 100000 in
theorem lifted (os : Os) (started : os.Started) (H : Type) (enc : TypeId × Value → H) :
    ReturnsInHanded {} Try.checked os 4 .any (Rows.runsCallsSpec.pre6 enc Try.prog Try.f4 Rows.runsCallsRow.domain false) (Rows.runsCallsSpec.post enc Try.prog Try.f4 false true false false) := by
  refine returnsInHanded_of_change_sized (C := Try.checked) own started (by kernel_rfl) Try.func4
    (ChangeSpec.witness6 (enc := enc) (C := Try.checked) false ⟨#[], #[.slice none 0 0, .int .i64 0, .agg #[.int .i64 0, .int .i64 0, .int .i64 0]], []⟩ 8 (by kernel_rfl) (by kernel_rfl) (by kernel_rfl) (by kernel_rfl) (by kernel_rfl)) ?_
  intro W base args ds gs before hval hW _ hsz _
  exact Ythlpjdjipchdkaa.E.law_callsS (Ythlpjdjipchdkaa.E.tabOf_ok Try.prog) (Ythlpjdjipchdkaa.E.bytes_of Try.prog (by kernel_rfl)) kids full (by rw [Try.params4]; decide) (by rw [Try.params4]; kernel_rfl) (by kernel_rfl) Try.underlying4 rfl
    (fun ds h => by
      have h : ds.length = 3 := by rw [h, Try.params4]; rfl
      match ds, h with
      | [d0, d1, d2], _ => rfl) (fun a h => ⟨(), plain 0 a h⟩) W (fun g v hg => by cases hg) base args ds gs before hval hW hsz

theorem over : Rows.RunsCallsSaid :=
  OpenClaim.holds_of_wide 4 Try.f4 rfl rfl rfl rfl rfl rfl rfl ⟨rfl, rfl, rfl, rfl, rfl⟩ rfl rfl rfl rfl rfl (by kernel_rfl) Try.func4 (by kernel_rfl)
    (of_decide_eq_true (by kernel_rfl)) (by unfold Func.isWrapper; first | (rw [if_pos (by decide +kernel)]; kernel_rfl) | (rw [if_neg (by decide +kernel)]; exact ⟨rfl, rfl⟩))
    (fun os started H enc _ => lifted os started H enc)

end RunsCallsAt

/-- THE STATEMENT -/
theorem runsCalls_proved : Rows.RunsCallsSaid := RunsCallsAt.over
#print axioms runsCalls_proved
end Go.Proofs.Ythlpjdjipchdkaa
