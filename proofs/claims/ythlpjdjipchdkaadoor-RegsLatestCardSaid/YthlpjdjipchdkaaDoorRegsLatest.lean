/- The latest word counts, and counts once: for every row of words, every name and either state. Condition: the two listed variables hold what the program's text lays. -/
import Derived.Test.YthlpjdjipchdkaaDoorRegsLatestPA
import Derived.Test.YthlpjdjipchdkaaDoorRows
import Derived.Test.YthlpjdjipchdkaaDoorTie
import Derived.Test.YthlpjdjipchdkaaDoorCards
import Derived.WalkKit
import Derived.ProofKit
import Derived.OpenShut
import Derived.LaidMore
import Derived.Stop.Joined
import Derived.SevenTiedAt
namespace Go.Proofs.YthlpjdjipchdkaaDoor
open Go Go.Proofs Go.ChangeShapes Go.WideShapes Go.ChangeAt Go.RowKit
set_option linter.unusedVariables false

namespace RegsLatestAt

theorem own : ownKnob Tryd.prog.godebug = none := by kernel_rfl
theorem kids : Kids Tryd.prog (· < Tryd.prog.types.size) := kids_rows (by kernel_rfl) (by kernel_rfl)
theorem full : ∀ t e, t < Tryd.prog.types.size → Tryd.prog.underlying t = some (.slice e) → 0 < Tryd.prog.cellsOf e := slices_full_of Tryd.prog (by kernel_rfl)

def ps : List (Bool × YthlpjdjipchdkaaDoor.E.Ty) := [(false, .sl false YthlpjdjipchdkaaDoor.E.ywd), (false, YthlpjdjipchdkaaDoor.E.yid), (false, .bool)]

set_option maxRecDepth 100000 in
theorem plain (k : Nat) (a : YthlpjdjipchdkaaDoor.E.denL (ps.map (·.2))) (h : YthlpjdjipchdkaaDoor.E.inTySL ps a) : YthlpjdjipchdkaaDoor.E.Hold Tryd.prog (YthlpjdjipchdkaaDoor.E.tabOf Tryd.prog) YthlpjdjipchdkaaDoor.E.glob0 5 ps [.bool] a (true, ()) () := by
  obtain ⟨a0, a1, a2, u⟩ := a
  exact ((YthlpjdjipchdkaaDoor.E.fn_ok (k + 213)).2 5 (by kernel_rfl)).2 (a0, a1, a2, ()) (true, ()) () (YthlpjdjipchdkaaDoor.E.F_law15RegsLatest_true (k + 200) a0 a1 a2 (by omega))

def laid : List (String × DataW Unit) := [("offshoot/api.Root", Rows.laid_offshoot_api_Root), ("offshoot/api.Trash", Rows.laid_offshoot_api_Trash)]

theorem met (os : Os) (args : Array Value) : laidMetH Tryd.prog laid ((World.doorLaid Tryd.prog 400 os).forCall (fun _ _ => 0) ⟨#[], args, []⟩).memory := by
  rw [MakeChecks.laidMetH_plain _ _ _ (by kernel_rfl)]
  exact laidMet_of_run' 8 (by kernel_rfl) (by kernel_rfl)

theorem globs {W : World} (h : laidMetH Tryd.prog laid W) : ∀ g v, YthlpjdjipchdkaaDoor.E.glob0 g = some v → YthlpjdjipchdkaaDoor.E.Rep (YthlpjdjipchdkaaDoor.E.hpOf W) (fun b => b < W.heap.size) true (.ref false v.t) v.a [.pointer (some ⟨g, 0, none⟩)] [] := by
  rw [MakeChecks.laidMetH_plain _ _ _ (by kernel_rfl)] at h
  intro g v hg
  unfold YthlpjdjipchdkaaDoor.E.glob0 at hg
  split at hg
  · obtain rfl := Option.some.inj hg
    exact YthlpjdjipchdkaaDoor.E.laid_rep (YthlpjdjipchdkaaDoor.E.tabOf_ok Tryd.prog) h (n := "offshoot/api.Root") (List.mem_cons_self ..) (by kernel_rfl) (t := 24) (by kernel_rfl) (by kernel_rfl) (by kernel_rfl) (by decide)
  · obtain rfl := Option.some.inj hg
    exact YthlpjdjipchdkaaDoor.E.laid_rep (YthlpjdjipchdkaaDoor.E.tabOf_ok Tryd.prog) h (n := "offshoot/api.Trash") (List.mem_cons_of_mem _ (List.mem_cons_self ..)) (by kernel_rfl) (t := 24) (by kernel_rfl) (by kernel_rfl) (by kernel_rfl) (by decide)
  · cases hg

set_option maxRecDepth 100000 in
theorem lifted (os : Os) (started : os.Started) (H : Type) (enc : TypeId × Value → H) :
    ReturnsInHanded {} Tryd.checked os 5 .any (fun w args => (Rows.regsLatestSpec.pre enc Tryd.prog Tryd.f5 [] false w args ∧ laidMetH Tryd.prog laid w) ∧ sizedMet enc Tryd.prog Tryd.f5 (OpenSpec.ofChange Rows.regsLatestSpec) false w args)
      (Rows.regsLatestSpec.post enc Tryd.prog Tryd.f5 false true false false) := by
  refine returnsInHanded_of_change_and (C := Tryd.checked) (X := fun w _ => laidMetH Tryd.prog laid w) (fun _ _ _ hh h => h.of_heap hh) own started (by kernel_rfl) Tryd.func5
    (ChangeSpec.witness_shaped (enc := enc) (C := Tryd.checked) (os := os) (X := fun w _ => laidMetH Tryd.prog laid w) false (World.doorLaid Tryd.prog 400 os) #[.slice none 0 0, .agg #[.int .i64 0, .int .i64 0], .bool false] 8 rfl (World.shaped_of_RefB (by kernel_rfl) (by kernel_rfl)) (by kernel_rfl) (by kernel_rfl) (by kernel_rfl) (met os _)) ?_
  intro W base args ds gs before hval hW _ hsz hL _
  exact YthlpjdjipchdkaaDoor.E.law_callsS (YthlpjdjipchdkaaDoor.E.tabOf_ok Tryd.prog) (YthlpjdjipchdkaaDoor.E.bytes_of Tryd.prog (by kernel_rfl)) kids full (by rw [Tryd.params5]; decide) (by rw [Tryd.params5]; kernel_rfl) (by kernel_rfl) Tryd.underlying4 rfl
    (fun ds h => by
      have h : ds.length = 3 := by rw [h, Tryd.params5]; rfl
      match ds, h with
      | [d0, d1, d2], _ => rfl) (fun a h => ⟨(), plain 0 a h⟩) W (globs hL) base args ds gs before hval hW hsz

theorem over : Rows.RegsLatestSaid :=
  OpenClaim.holds_of_wide 5 Tryd.f5 rfl rfl rfl rfl rfl rfl rfl ⟨rfl, rfl, rfl, rfl, rfl⟩ rfl rfl rfl rfl rfl (by kernel_rfl) Tryd.func5 (by kernel_rfl)
    (of_decide_eq_true (by kernel_rfl)) (by unfold Func.isWrapper; first | (rw [if_pos (by decide +kernel)]; kernel_rfl) | (rw [if_neg (by decide +kernel)]; exact ⟨rfl, rfl⟩))
    (fun os started H enc _ => lifted os started H enc)

end RegsLatestAt

/-- THE STATEMENT -/
theorem regsLatest_proved : Rows.RegsLatestCardSaid :=
  Claim7.holds_tied_plain_at .later [] [.data, .data] true (true, "8b21bcbfef2cfea6b872273ccc221a7fdcb15ee05317714a9029d6ab66e64f7b") true
    RegsLatestAt.over (fun _ h => by cases h) (by kernel_rfl) (fun _ h => by cases h) regsLatest_row_tie rfl ⟨rfl, rfl⟩ (by kernel_rfl) rfl
    (fun f fn hf hfn => by
      obtain rfl : f = 5 := Option.some.inj ((show Tryd.prog.funcNamed "offshoot/offshootlaw15.RegsLatest" = some 5 by kernel_rfl).symm.trans hf) |>.symm
      obtain rfl : fn = Tryd.f5 := (Option.some.inj (Tryd.func5.symm.trans hfn)).symm
      exact ⟨by kernel_rfl, fun j t ht => by
        rw [Tryd.params5] at ht
        have hm : t ∈ [22, 24, 4] := by simpa using Array.mem_of_getElem? ht
        have hall : ([22, 24, 4].all fun u => !Tryd.prog.wantsStandIn u) = true := by kernel_rfl
        exact (show Tryd.prog.wantsStandIn t = false by simpa using List.all_eq_true.1 hall t hm)⟩)
    (by kernel_rfl)
#print axioms regsLatest_proved
end Go.Proofs.YthlpjdjipchdkaaDoor
