/- The forms of the functions, and plain laws on what they come to. No condition. -/
import Derived.Test.YthlpjdjipchdkaaRunsCallsPA
import Derived.Shelf.Strings.Builder1
import Derived.Shelf.Strings.BuilderF
import Derived.Shelf.Strings.BuilderK
import Derived.Test.YthlpjdjipchdkaaProg
import Derived.BigCall
import Derived.KernelRfl
import Derived.IntWalk
import Derived.Deep.QuietTactic
import Derived.BigQuiet

namespace Go.Proofs.Ythlpjdjipchdkaa.E
open Go Go.Proofs Go.Shelf Go.RowKit Go.Lib
set_option linter.unusedSimpArgs false
set_option linter.unusedVariables false
theorem elT55 : ElT Try.prog 55 62 13 104 where
  und := Try.underlying55
  info := ⟨Try.t62, _, by kernel_rfl, rfl, by kernel_rfl, by kernel_rfl, by kernel_rfl, by kernel_rfl⟩
  pos := by decide
  bpos := by decide
section
set_option maxHeartbeats 4000000
set_option maxRecDepth 100000
theorem ins28_none (a : Option Addr) (n c i : Nat) (va : Option Addr) (vc : Nat) (w : World) (hi : i ≤ n) (hn : n ≤ c) (hc : n ≤ 140737488355328) :
    Calls Try.prog 28 #[.slice a n c, .int .i64 i, .slice va 0 vc] w fun e w' => e = .returned (.slice a n c) ∧ w' = w := by
  have h0 : (0 : Int) ≤ (i : Int) := by omega
  have h1 : (i : Int) ≤ (n : Int) := by omega
  go_enter Try.func28, Try.ntmps28
  go_wp2
  all_goals (go_ret; exact ⟨rfl, rfl⟩)
theorem ins28_end (a : Option Addr) (n c m : Nat) (vb vo vc : Nat) (w W : World) (r : Value) (hm : 0 < m) (hn : n ≤ c) (hc : n + m ≤ 140737488355328)
    (hrun : ∀ ty, (Builtin.append_ #[55, 55] ty #[.slice a n c, .slice (some ⟨vb, vo, none⟩) m vc]).run Try.prog w = .ok r W) :
    Calls Try.prog 28 #[.slice a n c, .int .i64 n, .slice (some ⟨vb, vo, none⟩) m vc] w fun e w' => e = .returned r ∧ w' = W := by
  have hz1 : ¬ ((m : Int) = 0) := by omega
  go_enter Try.func28, Try.ntmps28
  cases a with
  | none =>
    go_wp2_with (at_builtin; refine Lib.wpList_append_run _ rfl _ _ _ _ rfl _ _ rfl rfl _ _ (hrun _) ?_)
    all_goals (go_ret; exact ⟨rfl, rfl⟩)
  | some a =>
    obtain ⟨ab, ao, asp⟩ := a
    go_wp2_with (at_builtin; refine Lib.wpList_append_run _ rfl _ _ _ _ rfl _ _ rfl rfl _ _ (hrun _) ?_)
    all_goals (go_ret; exact ⟨rfl, rfl⟩)
theorem ins28_shift (b off n c i vb vo m vc : Nat) (w W1 W2 : World) (hi : i < n) (hm : 0 < m) (hroom : n + m ≤ c) (hc : n + m ≤ 140737488355328)
    (hov : ∀ lb cb, (callFunc 41 #[.slice (some ⟨vb, vo, none⟩) m vc, .slice (some ⟨b, off + (i + m) * 13, none⟩) lb cb]).run Try.prog w = .ok (.value (.bool false)) w)
    (hcp1 : ∀ ty dc sc, (Builtin.copy_ #[55, 55] ty #[.slice (some ⟨b, off + (i + m) * 13, none⟩) (n + m - (i + m)) dc, .slice (some ⟨b, off + i * 13, none⟩) (n + m - i) sc]).run Try.prog w.drew = .ok (goInt ((n - i : Nat) : Int)) W1)
    (hcp2 : ∀ ty dc, (Builtin.copy_ #[55, 55] ty #[.slice (some ⟨b, off + i * 13, none⟩) (n + m - i) dc, .slice (some ⟨vb, vo, none⟩) m vc]).run Try.prog W1 = .ok (goInt (m : Int)) W2) :
    Calls Try.prog 28 #[.slice (some ⟨b, off, none⟩) n c, .int .i64 i, .slice (some ⟨vb, vo, none⟩) m vc] w fun e w' => e = .returned (.slice (some ⟨b, off, none⟩) (n + m) c) ∧ w' = W2 := by
  have hz1 : ¬ ((m : Int) = 0) := by omega
  have hz2 : ¬ ((i : Int) = (n : Int)) := by omega
  have hw1 : IntKind.i64.wrap ((i : Int) + (m : Int)) = (i : Int) + (m : Int) := by rw [IntKind.wrap_i64]; omega
  have hb1 : (0 : Int) ≤ (i : Int) + (m : Int) := by omega
  have hin : i ≤ n := by omega
  have htn : ((i : Int) + (m : Int)).toNat = i + m := by omega
  have hb2 : ¬ (c = i + m) := by omega
  have hb3 : (i : Int) ≤ (n : Int) + (m : Int) := by omega
  have hb4 : ¬ (c = i) := by omega
  have mixed : Try.prog.follows .mixedOrders = true := by kernel_rfl
  go_enter Try.func28, Try.ntmps28
  go_wp2_with (simp only [hov])
  go_region_law_o (refine step_copy_R rfl _ _ 55 55 rfl _ _ (by simp [Act.eval, Act.put]) (by simp [Act.eval, Act.put]) (hcp1 _ _ _) ?_)
  go_wp2_with (at_builtin; refine wpList_copy_R _ rfl _ _ 55 55 rfl _ _ rfl rfl (hcp2 _ _) ?_)
  go_ret
  exact ⟨rfl, rfl⟩
theorem ins28_grow (b off n c i vb vo m vc B G : Nat) (w W1 W2 W3 : World) (hi : i < n) (hm : 0 < m) (hn : n ≤ c) (hroom : c < n + m) (hc : n + m ≤ 140737488355328) (hnm : n + m ≤ G) (hG : G ≤ 9223372036854775807)
    (hz : ∀ ty, (Builtin.append_ #[55, 3] ty #[.slice (some ⟨b, off, none⟩) i c, .int .i64 ((n : Int) + (m : Int) - (i : Int))]).run Try.prog w = .ok (.slice (some ⟨B, 0, none⟩) (n + m) G) W1)
    (hcpA : ∀ ty dc, (Builtin.copy_ #[55, 55] ty #[.slice (some ⟨B, i * 13, none⟩) (n + m - i) dc, .slice (some ⟨vb, vo, none⟩) m vc]).run Try.prog W1 = .ok (goInt (m : Int)) W2)
    (hcpB : ∀ ty dc sc, (Builtin.copy_ #[55, 55] ty #[.slice (some ⟨B, (i + m) * 13, none⟩) (n + m - (i + m)) dc, .slice (some ⟨b, off + i * 13, none⟩) (n - i) sc]).run Try.prog W2.drew = .ok (goInt ((n - i : Nat) : Int)) W3) :
    Calls Try.prog 28 #[.slice (some ⟨b, off, none⟩) n c, .int .i64 i, .slice (some ⟨vb, vo, none⟩) m vc] w fun e w' => e = .returned (.slice (some ⟨B, 0, none⟩) (n + m) G) ∧ w' = W3 := by
  have hz1 : ¬ ((m : Int) = 0) := by omega
  have hz2 : ¬ ((i : Int) = (n : Int)) := by omega
  have hz3 : (c : Int) < (n : Int) + (m : Int) := by omega
  have hGi : ¬ (G = i) := by omega
  have hGim : ¬ (G = i + m) := by omega
  have hci : ¬ (c = i) := by omega
  have hw1 : IntKind.i64.wrap ((i : Int) + (m : Int)) = (i : Int) + (m : Int) := by rw [IntKind.wrap_i64]; omega
  have hb1 : (0 : Int) ≤ (i : Int) + (m : Int) := by omega
  have hin : i ≤ n := by omega
  have htn : ((i : Int) + (m : Int)).toNat = i + m := by omega
  have hb3 : (i : Int) ≤ (n : Int) := by omega
  have mixed : Try.prog.follows .mixedOrders = true := by kernel_rfl
  go_enter Try.func28, Try.ntmps28
  go_wp2_with (first
    | (at_builtin; refine Lib.wpList_append_run _ rfl _ _ _ _ rfl _ _ rfl rfl _ _ (hz _) ?_)
    | (at_builtin; refine wpList_copy_R _ rfl _ _ 55 55 rfl _ _ rfl rfl (hcpA _ _) ?_))
  go_region_law_o (refine step_copy_R rfl _ _ 55 55 rfl (.slice (some ⟨B, (i + m) * 13, none⟩) (n + m - (i + m)) (G - (i + m))) (.slice (some ⟨b, off + i * 13, none⟩) (n - i) (c - i)) (by simp [Act.eval, Act.put]) (by simp [Act.eval, Act.put]) (hcpB 3 (G - (i + m)) (c - i)) ?_)
  go_wp2
  go_ret
  exact ⟨rfl, rfl⟩
end
theorem insW28 : InsW Try.prog 28 41 55 3 13 :=
  ⟨ins28_none, ins28_end, ins28_shift, ins28_grow, fun w a b la ca lb cb hne tA tB kA kB hsa hsb hkB hfa hfe => by
    rw [run_callFunc_extern Try.func41 (by kernel_rfl) (by kernel_rfl) (by kernel_rfl) (e := Extern.SlicesOverlaps.overlaps #[55, 55] #[4]) (by kernel_rfl),
      Lib.run_overlaps_apart w 55 4 62 Try.underlying55 13 elT55.size a b la ca lb cb hne tA tB kA kB hsa hsb hkB hfa hfe]
    rfl⟩
section
set_option maxHeartbeats 4000000
set_option maxRecDepth 100000
theorem rep40_end (b off n c i m vb vo vc : Nat) (ra : Option Addr) (rc : Nat) (w W : World) (hi : i < n) (hm : n < i + m) (hn : n ≤ c) (hc : n + m ≤ 140737488355328)
    (hrun : ∀ ty, (Builtin.append_ #[55, 55] ty #[.slice (some ⟨b, off, none⟩) i c, .slice (some ⟨vb, vo, none⟩) m vc]).run Try.prog w = .ok (.slice ra (i + m) rc) W) :
    Calls Try.prog 40 #[.slice (some ⟨b, off, none⟩) n c, .int .i64 i, .int .i64 n, .slice (some ⟨vb, vo, none⟩) m vc] w fun e w' => e = .returned (.slice ra (i + m) rc) ∧ w' = W := by
  have h0 : (0 : Int) ≤ (i : Int) := by omega
  have h1 : (i : Int) ≤ (n : Int) := by omega
  have hz1 : ¬ ((i : Int) = (n : Int)) := by omega
  have hz2 : ¬ ((i : Int) + (m : Int) < (n : Int)) := by omega
  have hin : i ≤ c := by omega
  have mixed : Try.prog.follows .mixedOrders = true := by kernel_rfl
  go_enter Try.func40, Try.ntmps40
  go_wp2_with (at_builtin; refine Lib.wpList_append_run _ rfl _ _ _ _ rfl _ _ rfl rfl _ _ (hrun _) ?_)
  all_goals (go_ret; exact ⟨rfl, rfl⟩)
theorem rep40_shift (b off n c i j vb vo m vc : Nat) (w : World) (W1 W2 : Nat → World) (hij : i < j) (hj : j < n) (hm : j < i + m) (hroom : i + m + (n - j) ≤ c) (hc : n + m ≤ 140737488355328)
    (hn : n ≤ c) (hov : ∀ q lb cb, (callFunc 41 #[.slice (some ⟨b, off + (i + m) * 13, none⟩) lb cb, .slice (some ⟨vb, vo, none⟩) m vc]).run Try.prog (w.drewN q) = .ok (.value (.bool false)) (w.drewN q))
    (hcp1 : ∀ q ty dc sc, (Builtin.copy_ #[55, 55] ty #[.slice (some ⟨b, off + (i + m) * 13, none⟩) (i + m + (n - j) - (i + m)) dc, .slice (some ⟨b, off + j * 13, none⟩) (n - j) sc]).run Try.prog (w.drewN (q + 1)) = .ok (goInt ((n - j : Nat) : Int)) (W1 q))
    (hcp2 : ∀ q ty dc, (Builtin.copy_ #[55, 55] ty #[.slice (some ⟨b, off + i * 13, none⟩) (i + m + (n - j) - i) dc, .slice (some ⟨vb, vo, none⟩) m vc]).run Try.prog (W1 q) = .ok (goInt (m : Int)) (W2 q)) :
    Calls Try.prog 40 #[.slice (some ⟨b, off, none⟩) n c, .int .i64 i, .int .i64 j, .slice (some ⟨vb, vo, none⟩) m vc] w fun e w' => e = .returned (.slice (some ⟨b, off, none⟩) (i + m + (n - j)) c) ∧ ∃ q, w' = W2 q := by
  have hz1 : ¬ ((i : Int) = (j : Int)) := by omega
  have hz2 : ¬ ((j : Int) = (n : Int)) := by omega
  have hz3 : ¬ ((c : Int) < (i : Int) + (m : Int) + ((n - j : Nat) : Int)) := by omega
  have hz4 : ¬ ((i : Int) + (m : Int) ≤ (j : Int)) := by omega
  have hic : i ≤ c := by omega
  have hjn : j ≤ n := by omega
  have hin : i ≤ n := by omega
  have hw1 : IntKind.i64.wrap ((i : Int) + (m : Int)) = (i : Int) + (m : Int) := by rw [IntKind.wrap_i64]; omega
  have hw2 : IntKind.i64.wrap ((i : Int) + (m : Int) + ((n - j : Nat) : Int)) = (i : Int) + (m : Int) + ((n - j : Nat) : Int) := by rw [IntKind.wrap_i64]; omega
  have hb1 : (0 : Int) ≤ (i : Int) + (m : Int) := by omega
  have hb3 : (i : Int) + (m : Int) ≤ (i : Int) + (m : Int) + ((n - j : Nat) : Int) := by omega
  have htn : ((i : Int) + (m : Int)).toNat = i + m := by omega
  have hcim : ¬ (c = i + m) := by omega
  have hci : ¬ (c = i) := by omega
  have hcj : ¬ (c = j) := by omega
  have mixed : Try.prog.follows .mixedOrders = true := by kernel_rfl
  go_enter Try.func40, Try.ntmps40
  go_wp2_with fail
  go_quiet (fail)
  go_wp2_with (simp only [hov])
  go_region_law_o (refine step_copy_R rfl _ _ 55 55 rfl (.slice (some ⟨b, off + (i + m) * 13, none⟩) (i + m + (n - j) - (i + m)) (c - (i + m))) (.slice (some ⟨b, off + j * 13, none⟩) (n - j) (c - j)) (by simp [Act.eval, Act.put]) (by simp [Act.eval, Act.put]) (hcp1 nq 3 (c - (i + m)) (c - j)) ?_)
  go_wp2_with (at_builtin; refine wpList_copy_R _ rfl _ _ 55 55 rfl _ _ rfl rfl (hcp2 nq _ _) ?_)
  go_ret
  exact ⟨rfl, nq, rfl⟩
theorem rep40_grow (b off n c i j vb vo m vc B : Nat) (G : Nat → Nat) (w : World) (W1 W2 W3 : Nat → World) (hij : i < j) (hj : j < n) (hm : j < i + m) (hn : n ≤ c) (hroom : c < i + m + (n - j)) (hc : n + m ≤ 140737488355328) (hnm : ∀ q, i + m + (n - j) ≤ G q) (hG : ∀ q, G q ≤ 9223372036854775807)
    (hz : ∀ q ty, (Builtin.append_ #[55, 3] ty #[.slice (some ⟨b, off, none⟩) i c, .int .i64 ((i : Int) + (m : Int) + ((n - j : Nat) : Int) - (i : Int))]).run Try.prog (w.drewN q) = .ok (.slice (some ⟨B, 0, none⟩) (i + m + (n - j)) (G q)) (W1 q))
    (hcpA : ∀ q ty dc, (Builtin.copy_ #[55, 55] ty #[.slice (some ⟨B, i * 13, none⟩) (i + m + (n - j) - i) dc, .slice (some ⟨vb, vo, none⟩) m vc]).run Try.prog (W1 q) = .ok (goInt (m : Int)) (W2 q))
    (hcpB : ∀ q ty dc sc, (Builtin.copy_ #[55, 55] ty #[.slice (some ⟨B, (i + m) * 13, none⟩) (i + m + (n - j) - (i + m)) dc, .slice (some ⟨b, off + j * 13, none⟩) (n - j) sc]).run Try.prog (W2 q).drew = .ok (goInt ((n - j : Nat) : Int)) (W3 q)) :
    Calls Try.prog 40 #[.slice (some ⟨b, off, none⟩) n c, .int .i64 i, .int .i64 j, .slice (some ⟨vb, vo, none⟩) m vc] w fun e w' => ∃ q, e = .returned (.slice (some ⟨B, 0, none⟩) (i + m + (n - j)) (G q)) ∧ w' = W3 q := by
  have hz1 : ¬ ((i : Int) = (j : Int)) := by omega
  have hz2 : ¬ ((j : Int) = (n : Int)) := by omega
  have hz3 : (c : Int) < (i : Int) + (m : Int) + ((n - j : Nat) : Int) := by omega
  have hic : i ≤ c := by omega
  have hjn : j ≤ n := by omega
  have hin : i ≤ n := by omega
  have hcj : ¬ (c = j) := by omega
  have hw1 : IntKind.i64.wrap ((i : Int) + (m : Int)) = (i : Int) + (m : Int) := by rw [IntKind.wrap_i64]; omega
  have hw2 : IntKind.i64.wrap ((i : Int) + (m : Int) + ((n - j : Nat) : Int)) = (i : Int) + (m : Int) + ((n - j : Nat) : Int) := by rw [IntKind.wrap_i64]; omega
  have htn : ((i : Int) + (m : Int)).toNat = i + m := by omega
  have hb1 : (0 : Int) ≤ (i : Int) + (m : Int) := by omega
  have hb3 : (i : Int) + (m : Int) ≤ (i : Int) + (m : Int) + ((n - j : Nat) : Int) := by omega
  have mixed : Try.prog.follows .mixedOrders = true := by kernel_rfl
  go_enter Try.func40, Try.ntmps40
  go_wp2_with fail
  go_quiet (fail)
  have hnmq := hnm nq
  have hGq := hG nq
  have hGi : ¬ (G nq = i) := by omega
  have hGim : ¬ (G nq = i + m) := by omega
  have hzq := hz nq
  have hAq := hcpA nq
  have hBq := hcpB nq
  generalize hGG : G nq = Gq at hnmq hGq hGi hGim hzq
  go_wp2_with (first
    | (at_builtin; refine Lib.wpList_append_run _ rfl _ _ _ _ rfl _ _ rfl rfl _ _ (hzq _) ?_)
    | (at_builtin; refine wpList_copy_R _ rfl _ _ 55 55 rfl _ _ rfl rfl (hAq _ _) ?_))
  go_region_law_o (refine step_copy_R rfl _ _ 55 55 rfl (.slice (some ⟨B, (i + m) * 13, none⟩) (i + m + (n - j) - (i + m)) (Gq - (i + m))) (.slice (some ⟨b, off + j * 13, none⟩) (n - j) (c - j)) (by simp [Act.eval, Act.put]) (by simp [Act.eval, Act.put]) (hBq 3 (Gq - (i + m)) (c - j)) ?_)
  go_wp2
  go_ret
  exact ⟨nq, by rw [hGG]; rfl, rfl⟩
end
theorem repW40 : RepW Try.prog 40 41 55 3 13 :=
  ⟨rep40_end, rep40_shift, rep40_grow, fun w a b la ca lb cb hne tA tB kA kB hsa hsb hkB hfa hfe => by
    rw [run_callFunc_extern Try.func41 (by kernel_rfl) (by kernel_rfl) (by kernel_rfl) (e := Extern.SlicesOverlaps.overlaps #[55, 55] #[4]) (by kernel_rfl),
      Lib.run_overlaps_apart w 55 4 62 Try.underlying55 13 elT55.size a b la ca lb cb hne tA tB kA kB hsa hsb hkB hfa hfe]
    rfl⟩
end Go.Proofs.Ythlpjdjipchdkaa.E

namespace Go.Proofs.Ythlpjdjipchdkaa.E
open Go Go.Proofs
theorem prim_ok : PrimOk Try.prog E0 := fun f dst svs σ σ' sv h => by cases h
theorem hands_ok : HandsOk Try.prog glob0 handT := by
  intro f e he a q o hg
  unfold handT tab at he
  split at he
  · rename_i hf
    obtain rfl := Nat.eq_of_beq_eq_true hf
    obtain rfl := Option.some.inj he
    exact hTxt_ok a q o hg
  · unfold tab at he
    split at he
    · rename_i hf
      obtain rfl := Nat.eq_of_beq_eq_true hf
      obtain rfl := Option.some.inj he
      exact hIns_ok insW28 elT55 Try.underlying3 rfl a q o hg
    · unfold tab at he
      split at he
      · rename_i hf
        obtain rfl := Nat.eq_of_beq_eq_true hf
        obtain rfl := Option.some.inj he
        exact hRep_ok repW40 elT55 Try.underlying3 rfl rfl a q o hg
      · cases he
theorem fn_ok (k : Nat) : FnOk Try.prog E0 (fnE E0 k) := mkEnv_ok (by kernel_rfl) prim_ok (by kernel_rfl) (by kernel_rfl) k hands_ok (by kernel_rfl)
end Go.Proofs.Ythlpjdjipchdkaa.E

