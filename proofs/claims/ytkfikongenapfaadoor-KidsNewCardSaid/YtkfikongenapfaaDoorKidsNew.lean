/- A block that is put between the keys of a gap stands just behind the child that was told, and all of its key: for every row of calls, every parent and every child. Condition: the two listed variables hold what the program's text lays. -/
import Derived.Test.YtkfikongenapfaaDoorKidsNewPA
import Derived.Test.YtkfikongenapfaaDoorRows
import Derived.Test.YtkfikongenapfaaDoorTie
import Derived.Test.YtkfikongenapfaaDoorCards
import Derived.WalkKit
import Derived.ProofKit
import Derived.OpenShut
import Derived.LaidMore
import Derived.Stop.Joined
import Derived.SevenTiedAt
namespace Go.Proofs.YtkfikongenapfaaDoor
open Go Go.Proofs Go.ChangeShapes Go.WideShapes Go.ChangeAt Go.RowKit
set_option linter.unusedVariables false

namespace KidsNewAt

theorem own : ownKnob Tryd.prog.godebug = none := by kernel_rfl
theorem kids : Kids Tryd.prog (· < Tryd.prog.types.size) := kids_rows (by kernel_rfl) (by kernel_rfl)
theorem full : ∀ t e, t < Tryd.prog.types.size → Tryd.prog.underlying t = some (.slice e) → 0 < Tryd.prog.cellsOf e := slices_full_of Tryd.prog (by kernel_rfl)

def ps : List (Bool × YtkfikongenapfaaDoor.E.Ty) := [(false, .sl false YtkfikongenapfaaDoor.E.ycall), (false, YtkfikongenapfaaDoor.E.yid), (false, YtkfikongenapfaaDoor.E.yid)]

set_option maxRecDepth 100000 in
theorem plain (k : Nat) (a : YtkfikongenapfaaDoor.E.denL (ps.map (·.2))) (h : YtkfikongenapfaaDoor.E.inTySL ps a) : YtkfikongenapfaaDoor.E.Hold Tryd.prog (YtkfikongenapfaaDoor.E.tabOf Tryd.prog) YtkfikongenapfaaDoor.E.glob0 3 ps [.bool] a (true, ()) () := by
  obtain ⟨a0, a1, a2, u⟩ := a
  exact ((YtkfikongenapfaaDoor.E.fn_ok (k + 213)).2 3 (by kernel_rfl)).2 (a0, a1, a2, ()) (true, ()) () (YtkfikongenapfaaDoor.E.KidsNew_true k a0 a1 a2)

def laid : List (String × DataW Unit) := [("offshoot/api.Root", Rows.laid_offshoot_api_Root), ("offshoot/api.Trash", Rows.laid_offshoot_api_Trash)]

theorem met (os : Os) (args : Array Value) : laidMetH Tryd.prog laid ((World.doorLaid Tryd.prog 400 os).forCall (fun _ _ => 0) ⟨#[], args, []⟩).memory := by
  rw [MakeChecks.laidMetH_plain _ _ _ (by kernel_rfl)]
  exact laidMet_of_run' 8 (by kernel_rfl) (by kernel_rfl)

theorem globs {W : World} (h : laidMetH Tryd.prog laid W) : ∀ g v, YtkfikongenapfaaDoor.E.glob0 g = some v → YtkfikongenapfaaDoor.E.Rep (YtkfikongenapfaaDoor.E.hpOf W) (fun b => b < W.heap.size) true (.ref false v.t) v.a [.pointer (some ⟨g, 0, none⟩)] [] := by
  rw [MakeChecks.laidMetH_plain _ _ _ (by kernel_rfl)] at h
  intro g v hg
  unfold YtkfikongenapfaaDoor.E.glob0 at hg
  split at hg
  · obtain rfl := Option.some.inj hg
    exact YtkfikongenapfaaDoor.E.laid_rep (YtkfikongenapfaaDoor.E.tabOf_ok Tryd.prog) h (n := "offshoot/api.Root") (List.mem_cons_self ..) (by kernel_rfl) (t := 24) (by kernel_rfl) (by kernel_rfl) (by kernel_rfl) (by decide)
  · obtain rfl := Option.some.inj hg
    exact YtkfikongenapfaaDoor.E.laid_rep (YtkfikongenapfaaDoor.E.tabOf_ok Tryd.prog) h (n := "offshoot/api.Trash") (List.mem_cons_of_mem _ (List.mem_cons_self ..)) (by kernel_rfl) (t := 24) (by kernel_rfl) (by kernel_rfl) (by kernel_rfl) (by decide)
  · cases hg

set_option maxRecDepth 100000 in
theorem lifted (os : Os) (started : os.Started) (H : Type) (enc : TypeId × Value → H) :
    ReturnsInHanded {} Tryd.checked os 3 .any (fun w args => (Rows.kidsNewSpec.pre enc Tryd.prog Tryd.f3 [] false w args ∧ laidMetH Tryd.prog laid w) ∧ sizedMet enc Tryd.prog Tryd.f3 (OpenSpec.ofChange Rows.kidsNewSpec) false w args)
      (Rows.kidsNewSpec.post enc Tryd.prog Tryd.f3 false true false false) := by
  refine returnsInHanded_of_change_and (C := Tryd.checked) (X := fun w _ => laidMetH Tryd.prog laid w) (fun _ _ _ hh h => h.of_heap hh) own started (by kernel_rfl) Tryd.func3
    (ChangeSpec.witness_shaped (enc := enc) (C := Tryd.checked) (os := os) (X := fun w _ => laidMetH Tryd.prog laid w) false (World.doorLaid Tryd.prog 400 os) #[.slice none 0 0, .agg #[.int .i64 0, .int .i64 0], .agg #[.int .i64 0, .int .i64 0]] 8 rfl (World.shaped_of_RefB (by kernel_rfl) (by kernel_rfl)) (by kernel_rfl) (by kernel_rfl) (by kernel_rfl) (met os _)) ?_
  intro W base args ds gs before hval hW _ hsz hL _
  exact YtkfikongenapfaaDoor.E.law_callsS (YtkfikongenapfaaDoor.E.tabOf_ok Tryd.prog) (YtkfikongenapfaaDoor.E.bytes_of Tryd.prog (by kernel_rfl)) kids full (by rw [Tryd.params3]; decide) (by rw [Tryd.params3]; kernel_rfl) (by kernel_rfl) Tryd.underlying4 rfl
    (fun ds h => by
      have h : ds.length = 3 := by rw [h, Tryd.params3]; rfl
      match ds, h with
      | [d0, d1, d2], _ => rfl) (fun a h => ⟨(), plain 400000 a h⟩) W (globs hL) base args ds gs before hval hW hsz

theorem over : Rows.KidsNewSaid :=
  OpenClaim.holds_of_wide 3 Tryd.f3 rfl rfl rfl rfl rfl rfl rfl ⟨rfl, rfl, rfl, rfl, rfl⟩ rfl rfl rfl rfl rfl (by kernel_rfl) Tryd.func3 (by kernel_rfl)
    (of_decide_eq_true (by kernel_rfl)) (by unfold Func.isWrapper; first | (rw [if_pos (by decide +kernel)]; kernel_rfl) | (rw [if_neg (by decide +kernel)]; exact ⟨rfl, rfl⟩))
    (fun os started H enc _ => lifted os started H enc)

end KidsNewAt

/-- THE STATEMENT -/
theorem kidsNew_proved : Rows.KidsNewCardSaid :=
  Claim7.holds_tied_plain_at .later [] [.data, .data] true (true, "bbe5cb5e1d9543c684ed84915551536867f7c15d43d7e7be728311e675f2c023") false
    KidsNewAt.over (fun _ h => by cases h) (by kernel_rfl) (fun _ h => by cases h) kidsNew_row_tie rfl ⟨rfl, rfl⟩ (by kernel_rfl) rfl
    (fun f fn hf hfn => by
      obtain rfl : f = 3 := Option.some.inj ((show Tryd.prog.funcNamed "offshoot/offshootlaw14.KidsNew" = some 3 by kernel_rfl).symm.trans hf) |>.symm
      obtain rfl : fn = Tryd.f3 := (Option.some.inj (Tryd.func3.symm.trans hfn)).symm
      exact ⟨by kernel_rfl, fun j t ht => by
        rw [Tryd.params3] at ht
        have hm : t ∈ [22, 24, 24] := by simpa using Array.mem_of_getElem? ht
        have hall : ([22, 24, 24].all fun u => !Tryd.prog.wantsStandIn u) = true := by kernel_rfl
        exact (show Tryd.prog.wantsStandIn t = false by simpa using List.all_eq_true.1 hall t hm)⟩)
    (by kernel_rfl)
#print axioms kidsNew_proved
end Go.Proofs.YtkfikongenapfaaDoor
