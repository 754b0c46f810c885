/- The forms of the functions, and plain laws on what they come to. No condition. -/
import Derived.Test.YthlpjdjipchdkaaRunsCallsGE
import Derived.Shelf.Strings.Builder1
import Derived.Shelf.Strings.BuilderF
import Derived.Shelf.Strings.BuilderK
import Derived.Test.YthlpjdjipchdkaaProg
import Derived.BigCall
import Derived.KernelRfl
import Derived.IntWalk
import Derived.Deep.QuietTactic
import Derived.BigQuiet

namespace Go.Proofs
open Go.Shelf Go.RowKit
set_option linter.unusedVariables false
set_option linter.unusedSimpArgs false
def Try.lays169_ren : Go.Shelf.Ren := ⟨fun | 169 => 35 | n => n, fun | 70 => 67 | 9 => 9 | 0 => 0 | 72 => 70 | 37 => 68 | 127 => 82 | 3 => 3 | 5 => 5 | n => n, fun | n => n⟩
theorem Try.lays169 : Go.Proofs.Lays.n169 Try.prog Try.lays169_ren := {
  mixed := by kernel_rfl
  f169 := Try.func35.trans (congrArg some (by kernel_rfl))
  t0 := Try.underlying0
  a0 := Try.isAgg0
  z0 := Try.sizeOf0
  v0 := Try.zeroValue0
  t3 := Try.underlying3
  a3 := Try.isAgg3
  z3 := Try.sizeOf3
  v3 := Try.zeroValue3
  t9 := Try.underlying9
  a9 := Try.isAgg9
  z9 := Try.sizeOf9
  v9 := Try.zeroValue9
  t37 := Try.underlying68
  a37 := Try.isAgg68
  z37 := Try.sizeOf68
  v37 := Try.zeroValue68
  t70 := Try.underlying67
  a70 := Try.isAgg67
  z70 := Try.sizeOf67
  v70 := Try.zeroValue67
  t72 := Try.underlying70
  a72 := Try.isAgg70
  z72 := Try.sizeOf70
  v72 := Try.zeroValue70
  t127 := Try.underlying82
  a127 := Try.isAgg82
  z127 := Try.sizeOf82
  v127 := Try.zeroValue82 }
theorem Try.Builder_Extra_169 : Builder.Extra Try.prog Try.lays169_ren := {
  sizeBuilder := by kernel_rfl
  liesBuilder := by kernel_rfl
  t5 := Try.underlying5
  a5 := Try.isAgg5
  z5 := Try.sizeOf5
  v5 := Try.zeroValue5
  infoByte := by kernel_rfl
  cellsByte := by kernel_rfl
  sizeByte := by kernel_rfl
  neB5 := by decide }
open Go.RowKit in
theorem Try.Builder_String_any_k (B b : Nat) (l : List UInt8) (w : World) (h : Lib.IsBuilderF 70 5 B b (Lib.byteCells l) w) (hBw : B ≤ w.heap.size) :
    Calls Try.prog 35 #[.pointer (some ⟨b, 0, none⟩)] w fun e w' => e = .returned (.string ⟨l.toArray⟩) ∧ (Lib.IsBuilderF 70 5 B b (Lib.byteCells l) w' ∧ Below B w w' ∧ Lib.OthersKept 5 (some b) w w') := Any.Builder_String_any_k Try.lays169 Try.Builder_Extra_169 B b l w h hBw
theorem mixedTry : Try.prog.follows .mixedOrders = true := by kernel_rfl
set_option maxHeartbeats 2000000 in
set_option maxRecDepth 100000 in
theorem Try.Builder_copyCheck_fresh (b : Nat) (w : World) (h0 : w.cell? ⟨b, 0, none⟩ = some (.pointer none)) (hsh : w.shape? b = some (70, 2)) (hfz : w.frozen? ⟨b, 0, none⟩ = false) :
    Calls Try.prog 44 #[.pointer (some ⟨b, 0, none⟩)] w fun e w' => e = .returned (.tuple #[]) ∧ w' = w.setCell ⟨b, 0, none⟩ (.pointer (some ⟨b, 0, none⟩)) := by
  obtain ⟨j, hj, hjs⟩ := Option.map_eq_some_iff.1 Try.Builder_Extra_169.sizeBuilder
  have mixed := mixedTry
  have t72 := Try.underlying70; have a72 := Try.isAgg70; have z72 := Try.sizeOf70; have v72 := Try.zeroValue70; have u72 := run_underlying Try.underlying70
  have t70 := Try.underlying67; have a70 := Try.isAgg67; have z70 := Try.sizeOf67; have v70 := Try.zeroValue67; have u70 := run_underlying Try.underlying67
  have t9 := Try.underlying9; have a9 := Try.isAgg9; have z9 := Try.sizeOf9; have v9 := Try.zeroValue9; have u9 := run_underlying Try.underlying9
  have t4 := Try.underlying4; have a4 := Try.isAgg4; have z4 := Try.sizeOf4; have v4 := Try.zeroValue4; have u4 := run_underlying Try.underlying4
  have t164 := Try.underlying85; have a164 := Try.isAgg85; have z164 := Try.sizeOf85; have v164 := Try.zeroValue85; have u164 := run_underlying Try.underlying85
  go_enter Try.func44, Try.ntmps44
  go_wp2
  rw [Lib.run_to_unsafe w ⟨b, 0, none⟩ Try.underlying67 Try.underlying85 hj (by rw [hjs]; decide) hsh (Nat.zero_lt_succ 1)]
  simp only [Result.andThen]
  rw [Oper.upon_value]
  go_wp2
  rw [run_callFunc_extern Try.func48 (by kernel_rfl) (by kernel_rfl) (by kernel_rfl) (e := Extern.AbiNoEscape.same) (by kernel_rfl)]
  rw [Lib.run_noEscape]
  simp only [Result.andThen]
  rw [Oper.upon_value]
  go_wp2
  rw [Lib.run_from_unsafe w ⟨b, 0, none⟩ Try.underlying85 Try.underlying67 hj hsh Try.Builder_Extra_169.liesBuilder]
  simp only [Result.andThen]
  rw [Oper.upon_value]
  go_wp2
  go_end0
  exact ⟨rfl, rfl⟩
set_option maxHeartbeats 2000000 in
set_option maxRecDepth 100000 in
theorem Try.Builder_copyCheck_used (b : Nat) (w : World) (h0 : w.cell? ⟨b, 0, none⟩ = some (.pointer (some ⟨b, 0, none⟩))) :
    Calls Try.prog 44 #[.pointer (some ⟨b, 0, none⟩)] w fun e w' => e = .returned (.tuple #[]) ∧ w' = w := by
  obtain ⟨j, hj, _⟩ := Option.map_eq_some_iff.1 Try.Builder_Extra_169.sizeBuilder
  have mixed := mixedTry
  have t72 := Try.underlying70; have a72 := Try.isAgg70; have z72 := Try.sizeOf70; have v72 := Try.zeroValue70; have u72 := run_underlying Try.underlying70
  have t70 := Try.underlying67; have a70 := Try.isAgg67; have z70 := Try.sizeOf67; have v70 := Try.zeroValue67; have u70 := run_underlying Try.underlying67
  have t9 := Try.underlying9; have a9 := Try.isAgg9; have z9 := Try.sizeOf9; have v9 := Try.zeroValue9; have u9 := run_underlying Try.underlying9
  have t4 := Try.underlying4; have a4 := Try.isAgg4; have z4 := Try.sizeOf4; have v4 := Try.zeroValue4; have u4 := run_underlying Try.underlying4
  have t164 := Try.underlying85; have a164 := Try.isAgg85; have z164 := Try.sizeOf85; have v164 := Try.zeroValue85; have u164 := run_underlying Try.underlying85
  go_enter Try.func44, Try.ntmps44
  go_wp2
  rw [Lib.run_neq_ptr_same w _ Try.underlying67 hj]
  go_wp2
  go_end0
  exact ⟨rfl, rfl⟩
set_option maxHeartbeats 2000000 in
set_option maxRecDepth 100000 in
theorem Try.Builder_copyCheck_k (B b : Nat) (bs : List Value) (w : World) (h : Lib.IsBuilderF 70 5 B b bs w) :
    Calls Try.prog 44 #[.pointer (some ⟨b, 0, none⟩)] w fun e w' => e = .returned (.tuple #[]) ∧ (Lib.BuilderAtF 70 5 B b (.pointer (some ⟨b, 0, none⟩)) bs w' ∧ Below B w w' ∧ Lib.OthersKept 5 (some b) w w') := by
  rcases h with h | h
  · refine (Try.Builder_copyCheck_fresh b w h.cell0 h.shape h.frozen0).mono ?_
    rintro e w' ⟨rfl, rfl⟩
    exact ⟨rfl, h.used _, (Below.refl B w).setCell (p := ⟨b, 0, none⟩) h.1 _, (Lib.OthersKept.refl _ _ w).setCell ⟨b, 0, none⟩ rfl _⟩
  · refine (Try.Builder_copyCheck_used b w h.cell0).mono ?_
    rintro e w' ⟨rfl, rfl⟩
    exact ⟨rfl, h, Below.refl B _, Lib.OthersKept.refl _ _ _⟩
set_option maxHeartbeats 2000000 in
set_option maxRecDepth 100000 in
theorem Try.Builder_WriteString_k (B b : Nat) (bs : List Value) (s : ByteArray) (w : World) (h : Lib.IsBuilderF 70 5 B b bs w) (hlen : bs.length + s.size ≤ 140737488355328) (hBw : B ≤ w.heap.size) :
    Calls Try.prog 34 #[.pointer (some ⟨b, 0, none⟩), .string s] w fun e w' => e = .returned (.tuple #[.int .i64 s.size, .nilIface]) ∧ (Lib.BuilderAtF 70 5 B b (.pointer (some ⟨b, 0, none⟩)) (bs ++ Lib.strCells s) w' ∧ Below B w w' ∧ Lib.OthersKept 5 (some b) w w') := by
  obtain ⟨i0, hi, hz0, hz1, hz2⟩ := info_parts Try.Builder_Extra_169.infoByte
  have mixed := mixedTry
  have t72 := Try.underlying70; have a72 := Try.isAgg70; have z72 := Try.sizeOf70; have v72 := Try.zeroValue70; have u72 := run_underlying Try.underlying70
  have t70 := Try.underlying67; have a70 := Try.isAgg67; have z70 := Try.sizeOf67; have v70 := Try.zeroValue67; have u70 := run_underlying Try.underlying67
  have t37 := Try.underlying68; have a37 := Try.isAgg68; have z37 := Try.sizeOf68; have v37 := Try.zeroValue68; have u37 := run_underlying Try.underlying68
  have t3 := Try.underlying3; have a3 := Try.isAgg3; have z3 := Try.sizeOf3; have v3 := Try.zeroValue3; have u3 := run_underlying Try.underlying3
  have t9 := Try.underlying9; have a9 := Try.isAgg9; have z9 := Try.sizeOf9; have v9 := Try.zeroValue9; have u9 := run_underlying Try.underlying9
  have t4 := Try.underlying4; have a4 := Try.isAgg4; have z4 := Try.sizeOf4; have v4 := Try.zeroValue4; have u4 := run_underlying Try.underlying4
  have t164 := Try.underlying85; have a164 := Try.isAgg85; have z164 := Try.sizeOf85; have v164 := Try.zeroValue85; have u164 := run_underlying Try.underlying85
  have t5 := Try.underlying5; have a5 := Try.isAgg5; have z5 := Try.sizeOf5; have v5 := Try.zeroValue5; have u5 := run_underlying Try.underlying5
  have e240 : ∀ args w, (callFunc 44 args).run Try.prog w = .ok (.enter 44 args) w := enters_of Try.func44 (by kernel_rfl) rfl
  go_enter Try.func34, Try.ntmps34
  go_wp2_with (go_at_fn 44; refine (Try.Builder_copyCheck_k B b bs _ h).mono ?_)
  rintro e w1 ⟨rfl, h1, hb1, hk1⟩
  obtain ⟨hB, v, hbk, hown, hne⟩ := h1
  have c0 : w1.cell? ⟨b, 0, none⟩ = some (.pointer (some ⟨b, 0, none⟩)) := by rw [Lib.cell_of_heap hbk]; rfl
  have c1 : w1.cell? ⟨b, 1, none⟩ = some v := by rw [Lib.cell_of_heap hbk]; rfl
  go_wp2_with (at_builtin; refine Lib.wpList_append_own_stringF _ rfl _ _ 68 9 rfl B 5 i0 Try.underlying68 Try.underlying9 hi hz0 hz1 hz2 _ _ _ rfl hown s rfl ?c3 ?c4 ?c5 ?_)
  case c3 => unfold maxLen; omega
  case c4 => omega
  case c5 => have := hb1.size; omega
  intro v' w2 hown' hgrow _
  have hlt : b < w1.heap.size := by
    rcases Nat.lt_or_ge b w1.heap.size with h' | h'
    · exact h'
    · simp [Array.getElem?_eq_none h'] at hbk
  have hb2 : w2.heap[b]? = some (.cells #[.pointer (some ⟨b, 0, none⟩), v] 70 (0, 0)) := by
    rw [hgrow.block b hlt (fun e => hne e.symm)]
    exact hbk
  have d0 : w2.cell? ⟨b, 0, none⟩ = some (.pointer (some ⟨b, 0, none⟩)) := by rw [Lib.cell_of_heap hb2]; rfl
  have d1 : w2.cell? ⟨b, 1, none⟩ = some v := by rw [Lib.cell_of_heap hb2]; rfl
  have f1 : w2.frozen? ⟨b, 1, none⟩ = false := Lib.frozen_of_heap hb2 1
  obtain ⟨ao, n', cap, rfl⟩ : ∃ ao n' cap, v' = .slice ao n' cap := by
    rcases hown'.2 with ⟨hv, _⟩ | ⟨g, cap, cur, fz, hv, _⟩
    · exact ⟨_, _, _, hv⟩
    · exact ⟨_, _, _, hv⟩
  go_wp2
  go_ret2
  refine ⟨rfl, ?_, ?_, (hk1.grown hgrow (Lib.ownsRowF_kind hown)).setCell ⟨b, 1, none⟩ rfl _⟩
  · exact Lib.BuilderAtF.put (T := 70) (e := 5) hB hb2 (bs' := bs ++ Lib.strCells s) (by simpa [Lib.strCells_length] using hown') Try.Builder_Extra_169.neB5
  · exact (hb1.grown hgrow (by have := hb1.size; omega) (fun k hk => (hown.lt k hk).1)).setCell (p := ⟨b, 1, none⟩) hB _
end Go.Proofs

namespace Go.Proofs.Ythlpjdjipchdkaa.E
open Go Go.Proofs Go.RowKit
set_option linter.unusedSimpArgs false
set_option linter.unusedVariables false
abbrev HId := Int × Int × Unit
abbrev HChar := HId × Int × Unit
abbrev HItem := HId × Int × Int × HChar × HChar × Bool × Bool × List UInt8 × Unit
abbrev HRun := HItem × Unit
def runCells (r : HRun) : List Value :=
  [.int .i64 r.1.1.1, .int .i64 r.1.1.2.1, .int .i64 r.1.2.1, .int .i64 r.1.2.2.1,
   .int .i64 r.1.2.2.2.1.1.1, .int .i64 r.1.2.2.2.1.1.2.1, .int .i64 r.1.2.2.2.1.2.1,
   .int .i64 r.1.2.2.2.2.1.1.1, .int .i64 r.1.2.2.2.2.1.1.2.1, .int .i64 r.1.2.2.2.2.1.2.1,
   .bool r.1.2.2.2.2.2.1, .bool r.1.2.2.2.2.2.2.1, .string ⟨⟨r.1.2.2.2.2.2.2.2.1⟩⟩]
def runTxt (r : HRun) : List UInt8 := if r.1.2.2.2.2.2.1 = true ∨ r.1.2.2.2.2.2.2.1 = true then [] else if r.1.2.2.1 > 0 then r.1.2.2.2.2.2.2.2.1 else []
def txtOf (l : List HRun) : List UInt8 := (l.map runTxt).flatten
theorem strCells_eq (l : List UInt8) : Lib.strCells ⟨⟨l⟩⟩ = Lib.byteCells l := by
  simp [Lib.strCells, Lib.byteCells]
set_option maxHeartbeats 4000000 in
set_option maxRecDepth 1000000 in
theorem live33 (r0 r1 fr ln l0 l1 l2 g0 g1 g2 : Int) (gone mark : Bool) (txt : List UInt8) (w : World) :
    Calls Try.prog 33 #[.agg #[.int .i64 r0, .int .i64 r1, .int .i64 fr, .int .i64 ln, .int .i64 l0, .int .i64 l1, .int .i64 l2, .int .i64 g0, .int .i64 g1, .int .i64 g2, .bool gone, .bool mark, .string ⟨⟨txt⟩⟩]] w fun e w' =>
      e = .returned (.int .i64 (if gone = true ∨ mark = true then 0 else ln)) ∧ ∃ o, w' = w.alloc o := by
  have mixed : Try.prog.follows .mixedOrders = true := by kernel_rfl
  cases gone <;> cases mark
  all_goals (go_enter Try.func33, Try.ntmps33; go_wp2; go_ret; exact ⟨rfl, _, rfl⟩)
set_option maxHeartbeats 4000000 in
set_option maxRecDepth 1000000 in
theorem text21 (p po rb ro n c : Nat) (xs : List HRun) (w : World) (hx : xs.length = n) (hn : n ≤ 2 ^ 40) (hp : w.cell? ⟨p, po, none⟩ = some (.slice (some ⟨rb, ro, none⟩) n c))
    (hc : ∀ k (h : k < xs.length) j v, (runCells xs[k])[j]? = some v → w.cell? ⟨rb, ro + k * 13 + j, none⟩ = some v) (hlen : (txtOf xs).length ≤ 140737488355328) (hpb : p < w.heap.size) (hrb : 0 < n → rb < w.heap.size) :
    Calls Try.prog 21 #[.pointer (some ⟨p, po, none⟩)] w fun e w' => e = .returned (.string ⟨(txtOf xs).toArray⟩) ∧ Below w.heap.size w w' := by
  have mixed : Try.prog.follows .mixedOrders = true := by kernel_rfl
  go_enter Try.func21, Try.ntmps21
  go_wp2
  go_loopw [11] (fun i wr => ∃ k : Nat, k ≤ n ∧ i = .int .i64 k ∧ Lib.IsBuilderF 70 5 w.heap.size w.heap.size (Lib.byteCells (txtOf (xs.take k))) wr ∧ Below w.heap.size w wr) (fun i wr => match i with | .int _ m => n - m.toNat | _ => 0)
  case atStart =>
    refine ⟨0, Nat.zero_le _, rfl, Lib.IsBuilderF.of (Lib.fresh_isBuilder 70 5 w), (Below.refl _ w).alloc (Nat.le_refl _) _⟩
  case round =>
    obtain ⟨k, hk, rfl, hI, hbw⟩ := hrel
    by_cases hkn : k < n
    · have hkx : k < xs.length := by omega
      have hw : ∀ j v, (runCells xs[k])[j]? = some v → wr.cell? ⟨rb, ro + k * 13 + j, none⟩ = some v := fun j v h => (hbw.cell (hrb (by omega))).trans (hc k hkx j v h)
      generalize hr : xs[k] = r at hw
      obtain ⟨⟨⟨r0, r1, _⟩, fr, ln, ⟨⟨l0, l1, _⟩, l2, _⟩, ⟨⟨g0, g1, _⟩, g2, _⟩, gone, mark, txt, _⟩, _⟩ := r
      have c0 := hw 0 _ rfl
      have c1 := hw 1 _ rfl
      have c2 := hw 2 _ rfl
      have c3 := hw 3 _ rfl
      have c4 := hw 4 _ rfl
      have c5 := hw 5 _ rfl
      have c6 := hw 6 _ rfl
      have c7 := hw 7 _ rfl
      have c8 := hw 8 _ rfl
      have c9 := hw 9 _ rfl
      have c10 := hw 10 _ rfl
      have c11 := hw 11 _ rfl
      have c12 := hw 12 _ rfl
      simp only [Nat.add_zero] at c0 c1 c2 c3 c4 c5 c6 c7 c8 c9 c10 c11 c12
      clear hw
      have hlv := fun W => live33 r0 r1 fr ln l0 l1 l2 g0 g1 g2 gone mark txt W
      have hBk : w.heap.size ≤ wr.heap.size := hbw.size
      have htake : txtOf (xs.take (k + 1)) = txtOf (xs.take k) ++ runTxt xs[k] := by
        have e : xs.take (k + 1) = xs.take k ++ [xs[k]] := by rw [List.take_add_one, List.getElem?_eq_getElem hkx]; rfl
        simp only [txtOf, e, List.map_append, List.flatten_append, List.map_cons, List.map_nil, List.flatten_cons, List.flatten_nil, List.append_nil]
      have hle : (txtOf (xs.take (k + 1))).length ≤ 140737488355328 := by
        refine Nat.le_trans ?_ hlen
        have : txtOf xs = txtOf (xs.take (k + 1)) ++ txtOf (xs.drop (k + 1)) := by
          simp only [txtOf, ← List.flatten_append, ← List.map_append, List.take_append_drop]
        rw [this]; simp
      rw [htake, hr] at hle
      rw [hr] at htake
      have hw1 : IntKind.i64.wrap ((k : Int) + 1) = ((k + 1 : Nat) : Int) := by rw [IntKind.wrap_i64]; omega
      by_cases hlive : (if gone = true ∨ mark = true then 0 else ln) > 0
      · have hrt : runTxt (((r0, r1, ()), fr, ln, ((l0, l1, ()), l2, ()), ((g0, g1, ()), g2, ()), gone, mark, txt, ()), ()) = txt := by
          unfold runTxt
          split at hlive
          · omega
          · rename_i hgm
            simp only [if_neg hgm]
            exact if_pos hlive
        rw [hrt] at hle htake
        generalize (if gone = true ∨ mark = true then (0 : Int) else ln) = lv at hlv hlive
        go_wp2_with (go_at_call 33; refine (hlv _).mono ?_; rintro e W1 ⟨rfl, o, rfl⟩)
        have hln : (Lib.byteCells (txtOf (xs.take k))).length + (⟨⟨txt⟩⟩ : ByteArray).size ≤ 140737488355328 := by
          rw [Lib.byteCells_length]
          simpa [ByteArray.size] using hle
        refine (Try.Builder_WriteString_k w.heap.size w.heap.size _ _ _ ((hI.alloc _).alloc _) hln (by simp; omega)).mono ?_
        rintro e W2 ⟨rfl, h1, b1, k1⟩
        go_wp2
        go_roundw
        case rel =>
          refine ⟨k + 1, by omega, rfl, ?_, ((hbw.alloc hBk _).alloc (by simp; omega) _).trans b1⟩
          rw [htake, Lib.byteCells_append, ← strCells_eq]
          exact .inr h1
        case measure =>
          trace_state
          simp; omega
      · have hrt : runTxt (((r0, r1, ()), fr, ln, ((l0, l1, ()), l2, ()), ((g0, g1, ()), g2, ()), gone, mark, txt, ()), ()) = [] := by
          unfold runTxt
          split at hlive
          · rename_i hgm; exact if_pos hgm
          · rename_i hgm
            simp only [if_neg hgm]
            exact if_neg hlive
        rw [hrt] at htake
        generalize (if gone = true ∨ mark = true then (0 : Int) else ln) = lv at hlv hlive
        go_wp2_with (go_at_call 33; refine (hlv _).mono ?_; rintro e W1 ⟨rfl, o, rfl⟩)
        go_roundw
        case rel =>
          refine ⟨k + 1, by omega, rfl, ?_, (hbw.alloc hBk _).alloc (by simp; omega) _⟩
          rw [htake, List.append_nil]
          exact (hI.alloc _).alloc _
        case measure =>
          trace_state
          simp; omega
    · have hkn' : k = n := by omega
      subst hkn'
      rw [← hx, List.take_length] at hI
      go_wp2_with (go_at_call 35; refine (Try.Builder_String_any_k w.heap.size w.heap.size _ _ hI (by have := hbw.size; omega)).mono ?_)
      rintro e W1 ⟨rfl, _, b1, _⟩
      go_wp2
      go_ret
      exact ⟨rfl, hbw.trans b1⟩
end Go.Proofs.Ythlpjdjipchdkaa.E

namespace Go.Proofs.Ythlpjdjipchdkaa.E
open Go Go.Proofs Go.RowKit
set_option linter.unusedSimpArgs false
set_option linter.unusedVariables false
abbrev tId : Ty := .pair (.int .i64) (.pair (.int .i64) .unit)
abbrev tChar : Ty := .pair tId (.pair (.int .i64) .unit)
abbrev tItem : Ty := .pair tId (.pair (.int .i64) (.pair (.int .i64) (.pair tChar (.pair tChar (.pair .bool (.pair .bool (.pair .str .unit)))))))
abbrev tRun : Ty := .pair tItem .unit
theorem rep_pair {h : Hp} {S : Set'} {l : Bool} {a b : Ty} {x : den a × den b} {cs : List Value} {X : List Nat} (hr : Rep h S l (.pair a b) x cs X) :
    ∃ c1 c2 X1 X2, cs = c1 ++ c2 ∧ Rep h S l a x.1 c1 X1 ∧ Rep h S l b x.2 c2 X2 := by
  obtain ⟨c1, c2, X1, X2, h1, _, h2, h3⟩ := hr
  exact ⟨c1, c2, X1, X2, h1, h2, h3⟩
theorem rep_int {h : Hp} {S : Set'} {l : Bool} {k : IntKind} {n : Int} {cs : List Value} {X : List Nat} (hr : Rep h S l (.int k) n cs X) : cs = [.int k n] := hr.1
theorem rep_bool {h : Hp} {S : Set'} {l : Bool} {n : Bool} {cs : List Value} {X : List Nat} (hr : Rep h S l .bool n cs X) : cs = [.bool n] := hr.1
theorem rep_str {h : Hp} {S : Set'} {l : Bool} {n : List UInt8} {cs : List Value} {X : List Nat} (hr : Rep h S l .str n cs X) : cs = [.string ⟨⟨n⟩⟩] := hr.1
theorem rep_unit {h : Hp} {S : Set'} {l : Bool} {n : Unit} {cs : List Value} {X : List Nat} (hr : Rep h S l .unit n cs X) : cs = [] := hr.1
theorem rep_id {h : Hp} {S : Set'} {l : Bool} {x : HId} {cs : List Value} {X : List Nat} (hr : Rep h S l tId x cs X) : cs = [.int .i64 x.1, .int .i64 x.2.1] := by
  obtain ⟨c1, c2, _, _, rfl, r1, r2⟩ := rep_pair hr
  obtain ⟨c3, c4, _, _, rfl, r3, r4⟩ := rep_pair r2
  obtain rfl := rep_int r1; obtain rfl := rep_int r3; obtain rfl := rep_unit r4
  rfl
theorem rep_char {h : Hp} {S : Set'} {l : Bool} {x : HChar} {cs : List Value} {X : List Nat} (hr : Rep h S l tChar x cs X) : cs = [.int .i64 x.1.1, .int .i64 x.1.2.1, .int .i64 x.2.1] := by
  obtain ⟨c1, c2, _, _, rfl, r1, r2⟩ := rep_pair hr
  obtain ⟨c3, c4, _, _, rfl, r3, r4⟩ := rep_pair r2
  obtain rfl := rep_id r1; obtain rfl := rep_int r3; obtain rfl := rep_unit r4
  rfl
theorem rep_run {h : Hp} {S : Set'} {l : Bool} {r : HRun} {cs : List Value} {X : List Nat} (hr : Rep h S l tRun r cs X) : cs = runCells r := by
  obtain ⟨c, c', _, _, rfl, q0, ru⟩ := rep_pair hr
  obtain rfl := rep_unit ru
  clear hr ru
  obtain ⟨c1, d1, _, _, rfl, r1, q1⟩ := rep_pair q0
  obtain ⟨c2, d2, _, _, rfl, r2, q2⟩ := rep_pair q1
  obtain ⟨c3, d3, _, _, rfl, r3, q3⟩ := rep_pair q2
  obtain ⟨c4, d4, _, _, rfl, r4, q4⟩ := rep_pair q3
  obtain ⟨c5, d5, _, _, rfl, r5, q5⟩ := rep_pair q4
  obtain ⟨c6, d6, _, _, rfl, r6, q6⟩ := rep_pair q5
  obtain ⟨c7, d7, _, _, rfl, r7, q7⟩ := rep_pair q6
  obtain ⟨c8, d8, _, _, rfl, r8, q8⟩ := rep_pair q7
  obtain rfl := rep_id r1; obtain rfl := rep_int r2; obtain rfl := rep_int r3; obtain rfl := rep_char r4; obtain rfl := rep_char r5
  obtain rfl := rep_bool r6; obtain rfl := rep_bool r7; obtain rfl := rep_str r8; obtain rfl := rep_unit q8
  rfl
theorem rl_runs {h : Hp} {S : Set'} {l : Bool} : ∀ {xs : List HRun} {cs : List Value} {X : List Nat}, RL (Rep h S l tRun) xs cs X → ∀ k (hk : k < xs.length) j v, (runCells xs[k])[j]? = some v → cs[k * 13 + j]? = some v
  | [], _, _, _, k, hk, _, _, _ => by simp at hk
  | x :: xs, cs, X, ⟨c1, c2, X1, X2, h1, _, h3, h4⟩, k, hk, j, v, hv => by
    have e := rep_run h3
    subst e
    subst h1
    have hl : (runCells x).length = 13 := rfl
    match k, hk with
    | 0, _ =>
      simp only [List.getElem_cons_zero] at hv
      have hj : j < 13 := by
        have := (List.getElem?_eq_some_iff.1 hv).1
        rwa [hl] at this
      rw [Nat.zero_mul, Nat.zero_add, List.getElem?_append_left (by rw [hl]; exact hj)]
      exact hv
    | k + 1, hk =>
      simp only [List.getElem_cons_succ] at hv
      have := rl_runs h4 k (by simpa using hk) j v hv
      rw [List.getElem?_append_right (by rw [hl]; omega), hl, show (k + 1) * 13 + j - 13 = k * 13 + j by omega]
      exact this
set_option maxHeartbeats 4000000 in
set_option maxRecDepth 1000000 in
theorem text21_none (p po c : Nat) (a : Option Addr) (w : World) (hp : w.cell? ⟨p, po, none⟩ = some (.slice a 0 c)) (hpb : p < w.heap.size) :
    Calls Try.prog 21 #[.pointer (some ⟨p, po, none⟩)] w fun e w' => e = .returned (.string ⟨#[]⟩) ∧ Below w.heap.size w w' := by
  have mixed : Try.prog.follows .mixedOrders = true := by kernel_rfl
  go_enter Try.func21, Try.ntmps21
  go_wp2
  go_loopw [11] (fun i wr => i = .int .i64 0 ∧ Lib.IsBuilderF 70 5 w.heap.size w.heap.size (Lib.byteCells []) wr ∧ Below w.heap.size w wr) (fun i wr => 0)
  case atStart =>
    exact ⟨rfl, Lib.IsBuilderF.of (Lib.fresh_isBuilder 70 5 w), (Below.refl _ w).alloc (Nat.le_refl _) _⟩
  case round =>
    obtain ⟨rfl, hI, hbw⟩ := hrel
    go_wp2_with (go_at_call 35; refine (Try.Builder_String_any_k w.heap.size w.heap.size _ _ hI (by have := hbw.size; omega)).mono ?_)
    rintro e W1 ⟨rfl, _, b1, _⟩
    go_wp2
    go_ret
    exact ⟨rfl, hbw.trans b1⟩
def hTxt : HandE :=
  ⟨⟨[(true, .ref false (.pair (.sl true tRun) .unit))], [.str]⟩, fun a => match a with
    | ((xs, _), _) => br (decide (List.length xs ≤ 2 ^ 40) && decide ((txtOf xs).length ≤ 140737488355328)) (some ((txtOf xs, ()), ())) none⟩
theorem hTxt_ok {T : Tab} {G : Glob} : ∀ a q o, hTxt.g a = some (q, o) → Hold Try.prog T G 21 hTxt.s.ps hTxt.s.rs a q o := by
  rintro ⟨⟨xs, u1⟩, u⟩ q o he
  obtain ⟨h1, h2⟩ | ⟨_, h2⟩ := br_some he
  case inr => cases h2
  simp only [Bool.and_eq_true, decide_eq_true_eq] at h1
  obtain ⟨rfl, rfl⟩ := Prod.mk.inj (Option.some.inj h2)
  intro C hP hT hG htk w vs Xs hh hn hz ha hX hnd hlt
  have hl := ArgsR.len ha
  match vs, Xs, hl, ha with
  | [v1], [X1], _, ⟨⟨cs1, r1, e1⟩, _⟩ =>
    have r1 : Rep C.h (Sx C.L C.I true) true (.ref false (.pair (.sl true tRun) .unit)) (xs, ()) cs1 X1 := r1
    rw [← hh] at r1
    obtain rfl := Rep.lentX r1
    obtain ⟨b, o, arr, E, fr, X', rfl, hb, ho, hr, _⟩ := r1
    have e1 : v1 = .pointer (some ⟨b, o, none⟩) := e1
    subst e1
    obtain ⟨c1, c2, _, _, hcs, r2, r3⟩ := rep_pair hr
    obtain rfl := rep_unit r3
    rw [List.append_nil] at hcs
    have hbl : b < w.heap.size := by
      unfold hpOf at hb; exact (Array.getElem?_eq_some_iff.1 hb).1
    have fin : ∀ (e : Ending) (w' : World), e = .returned (.string ⟨(txtOf xs).toArray⟩) ∧ Below w.heap.size w w' → ∃ v I' vals Ys Zs, e = .returned v ∧ Back C hTxt.s.ps hTxt.s.rs [.pointer (some ⟨b, o, none⟩)] (txtOf xs, ()) () v w' I' vals Ys Zs := by
      rintro e w' ⟨rfl, hB⟩
      refine ⟨_, C.I, [.string ⟨⟨txtOf xs⟩⟩], [[]], [], rfl, rfl, ⟨⟨[.string ⟨⟨txtOf xs⟩⟩], ⟨rfl, rfl⟩, rfl⟩, trivial⟩, rfl, by simp, by simp, fun b' hb' => ⟨by have := (C.Iok b' hb').1; have := hB.size; omega, .inl hb'⟩, fun b' hb' => hb', fun b' hb' _ => ?_, by have := hB.size; omega, ?_⟩
      · rw [← hh]; exact hB.block b' (by omega)
      · rw [← hz]; unfold restOf; rw [hB.os, hB.output]
    obtain ⟨a, c, hc1, hc2, hrow⟩ := r2
    have hcell : w.cell? ⟨b, o, none⟩ = some (.slice a xs.length c) := by
      have := cell_at (w := w) hb (o := o) 0
      rw [Nat.add_zero] at this
      rw [this]
      have h2 : ((arr.toList.drop o).take 1)[0]? = some (.slice a xs.length c) := by rw [show (1 : Nat) = (Ty.pair (.sl true tRun) .unit).size from rfl, hcs, hc1]; rfl
      rw [List.getElem?_take_of_lt (by omega), List.getElem?_drop] at h2
      simpa using h2
    rcases hrow with ⟨rfl, _, _, _⟩ | ⟨b2, o2, arr2, E2, fr2, X2, rfl, hb2, ho2, hrl, _⟩
    · exact (text21_none b o c a w hcell hbl).mono fin
    · refine (text21 b o b2 o2 xs.length c xs w rfl h1.1 hcell (fun k hk j v hv => ?_) h1.2 hbl (fun _ => by unfold hpOf at hb2; exact (Array.getElem?_eq_some_iff.1 hb2).1)).mono fin
      have h3 := rl_runs hrl k hk j v hv
      rw [show o2 + k * 13 + j = o2 + (k * 13 + j) by omega, cell_at hb2]
      have h4 := (List.getElem?_eq_some_iff.1 h3).1
      rw [List.length_take] at h4
      rw [List.getElem?_take_of_lt (by omega), List.getElem?_drop] at h3
      simpa using h3
end Go.Proofs.Ythlpjdjipchdkaa.E

namespace Go.Proofs.Ythlpjdjipchdkaa.E
open Go Go.Proofs
set_option linter.unusedVariables false
abbrev u8 : Ty := .int .u8
abbrev i64 : Ty := .int .i64
abbrev bs : Ty := .sl false u8
abbrev yid : Ty := .pair i64 (.pair i64 .unit)
abbrev ychar : Ty := .pair yid (.pair i64 .unit)
abbrev ycut : Ty := .pair yid (.pair i64 (.pair i64 .unit))
abbrev yitem : Ty := .pair yid (.pair i64 (.pair i64 (.pair ychar (.pair ychar (.pair .bool (.pair .bool (.pair .str .unit)))))))
abbrev yrun : Ty := .pair yitem .unit
abbrev yrow : Ty := .pair (.sl true yrun) .unit
abbrev yrrow : Ty := .pair (.sl true yitem) .unit
abbrev ycall : Ty := .pair i64 (.pair i64 (.pair yitem (.pair ycut .unit)))
def prim0 : FuncId → Option Nat → List SV → St → OpR := fun _ _ _ _ => none
def glob0 : Glob := fun g => none
def tyT : List (Nat × Ty) := [(25, .ref true yrow), (57, yrow), (42, .ref true yrrow), (44, yrrow), (55, .sl true yrun)]
def tyF : List (Nat × List (Nat × Ty)) := []
def sigT : List (Nat × Sig) := [(3, ⟨[(false, .sl false ycall)], [.bool]⟩),
   (4, ⟨[(false, .sl false ycall), (false, i64), (false, ychar)], [.bool]⟩),
   (5, ⟨[(false, .sl false ycall)], [.bool]⟩),
   (6, ⟨[(false, .sl false ycall), (false, ycut)], [.bool]⟩),
   (7, ⟨[], [.bool]⟩),
   (8, ⟨[(false, .sl false ycall)], [.bool]⟩),
   (9, ⟨[], [.ref true yrow]⟩),
   (10, ⟨[(false, .ref true yrow), (false, i64), (false, yitem)], [i64]⟩),
   (11, ⟨[(false, .ref true yrow), (false, ycut)], [i64]⟩),
   (12, ⟨[(true, .ref false yrow)], [.sl true yitem]⟩),
   (13, ⟨[(false, .ref true yrrow), (false, i64), (false, yitem)], [i64]⟩),
   (14, ⟨[(false, .ref true yrrow), (false, ycut)], [i64]⟩),
   (15, ⟨[(true, .ref false yrow)], [i64]⟩),
   (16, ⟨[(true, .ref false yrow), (false, ychar)], [i64, .bool]⟩),
   (17, ⟨[(true, .ref false yrrow), (false, ychar)], [i64, .bool]⟩),
   (18, ⟨[(true, .ref false yrow), (false, i64)], [yitem, .bool]⟩),
   (19, ⟨[(true, .sl false yitem), (true, .sl false yitem)], [.bool]⟩),
   (20, ⟨[(true, .ref false yrrow)], [.sl true yitem]⟩),
   (21, ⟨[(true, .ref false yrow)], [.str]⟩),
   (22, ⟨[(true, .ref false yrrow)], [.str]⟩),
   (23, ⟨[(true, .ref false yrow)], [i64]⟩),
   (24, ⟨[(false, i64), (false, i64), (false, i64), (false, .str)], [yitem]⟩),
   (25, ⟨[(false, yitem)], [.bool]⟩),
   (26, ⟨[(true, .ref false yrow), (false, yitem)], [.bool]⟩),
   (27, ⟨[(false, .ref true yrow), (false, i64)], [i64]⟩),
   (28, ⟨[(false, .sl true yrun), (false, i64), (false, .sl true yrun)], [.sl true yrun]⟩),
   (29, ⟨[(false, .ref true yrow)], []⟩),
   (30, ⟨[(false, yrun), (false, ycut)], [.sl true yrun, i64]⟩),
   (31, ⟨[(false, yid)], [.bool]⟩),
   (32, ⟨[(false, yrun), (false, ychar)], [.bool]⟩),
   (33, ⟨[(false, yrun)], [i64]⟩),
   (36, ⟨[(false, yid)], [.bool]⟩),
   (39, ⟨[(false, yrun), (false, i64)], [yrun, yrun]⟩),
   (40, ⟨[(false, .sl true yrun), (false, i64), (false, i64), (false, .sl true yrun)], [.sl true yrun]⟩),
   (43, ⟨[(false, yrun), (false, yrun)], [.bool]⟩)]
def inlT : List (Nat × Sig) := [(37, ⟨[], [.bool]⟩),
   (38, ⟨[], [.bool]⟩),
   (45, ⟨[], [i64]⟩)]
def cut12000000_11_0 : Cut := ⟨[(.q 3 true ycut), (.v 14 true (.sl false yrun)), (.v 15 false (.int .i64))], [(.t 5 false (.int .i64)), (.o 6 12020006 false yrun), (.t 16 false (.int .i64))]⟩
def cut13000000_12_0 : Cut := ⟨[(.v 9 true (.sl true yrun)), (.v 10 false (.int .i64))], [(.o 3 13020003 false yitem), (.t 11 false (.int .i64))]⟩
def cut14000000_13_0 : Cut := ⟨[(.c 0 (.p 0 [])), (.q 5 true yitem)], [(.t 6 false (.int .i64)), (.o 7 14020007 false yitem), (.t 8 false (.int .i64)), (.r 0 false yrrow yrrow)]⟩
def cut15000000_14_0 : Cut := ⟨[(.c 0 (.p 0 [])), (.q 3 true ycut)], [(.t 5 false (.int .i64)), (.t 6 false (.int .i64)), (.r 0 false yrrow yrrow)]⟩
def cut16000000_15_0 : Cut := ⟨[(.v 9 true (.sl true yrun)), (.v 10 false (.int .i64))], [(.t 3 false (.int .i64)), (.t 11 false (.int .i64))]⟩
def cut17000000_16_0 : Cut := ⟨[(.q 3 true ychar), (.v 12 true (.sl true yrun)), (.v 13 false (.int .i64))], [(.t 4 false (.int .i64)), (.t 5 false .bool), (.t 6 false (.int .i64)), (.t 14 false (.int .i64))]⟩
def cut18000000_17_0 : Cut := ⟨[(.q 0 true yrrow), (.q 3 true ychar)], [(.t 4 false (.int .i64)), (.t 5 false .bool), (.t 6 false (.int .i64))]⟩
def cut19000000_18_0 : Cut := ⟨[(.c 4 (.p 19000004 [])), (.v 15 true (.sl true yrun)), (.v 16 false (.int .i64))], [(.t 1 false (.int .i64)), (.t 5 false .bool), (.t 17 false (.int .i64)), (.r 19000004 false yitem yitem)]⟩
def cut19000000_18_2008 : Cut := ⟨[(.v 1 false (.int .i64)), (.q 7 true yrun), (.c 8 (.p 19000008 []))], [(.r 19000008 false yitem yitem)]⟩
def cut20000000_19_0 : Cut := ⟨[(.v 0 true (.sl false yitem)), (.v 1 true (.sl false yitem))], [(.t 4 false .bool), (.t 5 false (.int .i64))]⟩
def cut21000000_20_0 : Cut := ⟨[(.q 0 true yrrow)], [(.o 3 21020003 false yitem), (.t 4 false (.int .i64))]⟩
def cut21000000_20_2009 : Cut := ⟨[(.c 3 (.sf 21020003))], [(.a 21020003 false yitem)]⟩
def cut21000000_20_2010 : Cut := ⟨[(.c 3 (.sf 21020003)), (.q 5 true yitem)], [(.a 21020003 false yitem)]⟩
def cut23000000_22_0 : Cut := ⟨[(.q 0 true yrrow)], [(.t 3 false .str), (.t 4 false (.int .i64))]⟩
def cut24000000_23_0 : Cut := ⟨[(.v 9 true (.sl true yrun)), (.v 10 false (.int .i64))], [(.t 3 false (.int .i64)), (.t 11 false (.int .i64))]⟩
def cut27011008000000_45_0 : Cut := ⟨[(.v 0 true (.sl true yrun)), (.c 1 (.fn 38 [] [(.p 27000003 [])])), (.v 7 false (.int .i64))], [(.t 4 false (.int .i64)), (.t 8 false (.int .i64)), (.r 27000003 false yitem yitem)]⟩
def cut28000000_27_0 : Cut := ⟨[(.c 0 (.p 0 [])), (.c 12 (.sf 28000012)), (.v 13 false (.int .i64))], [(.t 1 false (.int .i64)), (.t 4 false (.int .i64)), (.t 14 false (.int .i64)), (.r 0 false (.pair (.hole 28000012) .unit) yrow), (.a 28000012 false yrun)]⟩
def cut30000000_29_0 : Cut := ⟨[(.v 9 true (.sl false yrun)), (.v 10 false (.int .i64))], [(.o 2 30020002 false yrun), (.t 11 false (.int .i64))]⟩
def cut30000000_29_1006 : Cut := ⟨[(.c 2 (.sf 30020002)), (.q 4 true yrun), (.v 5 false (.int .i64)), (.v 27 false .bool)], [(.a 30020002 false yrun)]⟩
def cut31000000_30_1006 : Cut := ⟨[(.c 2 (.p 31000002 [])), (.v 6 false (.int .i64)), (.v 50 false .bool)], [(.o 8 31020008 false yrun), (.r 31000002 false yrun yrun)]⟩
def cut31000000_30_1011 : Cut := ⟨[(.c 2 (.p 31000002 [])), (.v 7 false (.int .i64)), (.v 73 false .bool)], [(.o 10 31020010 false yrun), (.r 31000002 false yrun yrun)]⟩
def cut4000000_3_0 : Cut := ⟨[(.v 0 false (.sl false ycall)), (.c 3 (.p 4000013 []))], [(.t 4 false (.int .i64)), (.r 4000013 false yrow yrow)]⟩
def cut4000000_3_2 : Cut := ⟨[(.v 5 true (.sl false yitem))], [(.t 2 false .bool), (.t 6 false (.int .i64))]⟩
def cut40000000_39_2002 : Cut := ⟨[(.v 1 false (.int .i64)), (.q 2 true yrun), (.c 6 (.p 40000006 []))], [(.r 40000006 false yrun yrun)]⟩
def cut40000000_39_2003 : Cut := ⟨[(.v 1 false (.int .i64)), (.q 2 true yrun), (.c 7 (.p 40000007 []))], [(.r 40000007 false yrun yrun)]⟩
def cut40000000_39_2004 : Cut := ⟨[(.c 4 (.p 40000004 [])), (.c 5 (.p 40000005 [])), (.q 6 true yrun), (.q 7 true yrun)], [(.r 40000004 false yrun yrun), (.r 40000005 false yrun yrun)]⟩
def cut5000000_4_0 : Cut := ⟨[(.v 0 false (.sl false ycall)), (.c 7 (.p 5000023 [])), (.c 8 (.p 5000025 []))], [(.t 6 false .bool), (.t 9 false (.int .i64)), (.r 5000023 false yrow yrow), (.r 5000025 false yrrow yrrow)]⟩
def cut6000000_5_0 : Cut := ⟨[(.v 0 false (.sl false ycall)), (.c 3 (.p 6000018 []))], [(.t 4 false (.int .i64)), (.r 6000018 false yrow yrow)]⟩
def cut6000000_5_2 : Cut := ⟨[(.c 3 (.p 6000018 [])), (.v 5 true (.sl false yitem))], [(.t 2 false .bool), (.t 6 false (.int .i64)), (.t 7 false .str), (.t 8 false (.int .i64)), (.r 6000018 false yrow yrow)]⟩
def cut6000000_5_4 : Cut := ⟨[(.c 3 (.p 6000018 [])), (.v 5 true (.sl false yitem)), (.v 8 false (.int .i64))], [(.t 2 false .bool), (.t 6 false (.int .i64)), (.t 9 false (.int .i64)), (.r 6000018 false yrow yrow)]⟩
def cut7000000_6_0 : Cut := ⟨[(.v 0 false (.sl false ycall)), (.c 5 (.p 7000020 []))], [(.t 6 false (.int .i64)), (.r 7000020 false yrow yrow)]⟩
def cut7000000_6_2 : Cut := ⟨[(.c 5 (.p 7000020 []))], [(.o 7 7020007 false yitem), (.t 8 false (.int .i64)), (.r 7000020 false yrow yrow)]⟩
def cut7000000_6_4 : Cut := ⟨[(.q 3 true ycut), (.c 5 (.p 7000020 [])), (.v 7 true (.sl false yitem))], [(.t 4 false .bool), (.t 11 false (.int .i64)), (.t 12 false (.int .i64)), (.r 7000020 false yrow yrow)]⟩
def cut9000000_8_0 : Cut := ⟨[(.v 0 false (.sl false ycall))], [(.t 2 false .bool), (.t 3 false (.int .i64))]⟩
def annT : List (Nat × List (Nat × List (Nat × Cut))) := [(4000000, [(3, [(0, cut4000000_3_0), (2, cut4000000_3_2)])]),
   (5000000, [(4, [(0, cut5000000_4_0)])]),
   (6000000, [(5, [(0, cut6000000_5_0), (2, cut6000000_5_2), (4, cut6000000_5_4)])]),
   (7000000, [(6, [(0, cut7000000_6_0), (2, cut7000000_6_2), (4, cut7000000_6_4)])]),
   (9000000, [(8, [(0, cut9000000_8_0)])]),
   (12000000, [(11, [(0, cut12000000_11_0)])]),
   (13000000, [(12, [(0, cut13000000_12_0)])]),
   (14000000, [(13, [(0, cut14000000_13_0)])]),
   (15000000, [(14, [(0, cut15000000_14_0)])]),
   (16000000, [(15, [(0, cut16000000_15_0)])]),
   (17000000, [(16, [(0, cut17000000_16_0)])]),
   (18000000, [(17, [(0, cut18000000_17_0)])]),
   (19000000, [(18, [(0, cut19000000_18_0), (2008, cut19000000_18_2008)])]),
   (20000000, [(19, [(0, cut20000000_19_0)])]),
   (21000000, [(20, [(0, cut21000000_20_0), (2009, cut21000000_20_2009), (2010, cut21000000_20_2010)])]),
   (23000000, [(22, [(0, cut23000000_22_0)])]),
   (24000000, [(23, [(0, cut24000000_23_0)])]),
   (28000000, [(27, [(0, cut28000000_27_0)])]),
   (30000000, [(29, [(0, cut30000000_29_0), (1006, cut30000000_29_1006)])]),
   (31000000, [(30, [(1006, cut31000000_30_1006), (1011, cut31000000_30_1011)])]),
   (40000000, [(39, [(2002, cut40000000_39_2002), (2003, cut40000000_39_2003), (2004, cut40000000_39_2004)])]),
   (27011008000000, [(45, [(0, cut27011008000000_45_0)])])]
def handT : List (Nat × HandE) := [(21, hTxt), (28, hIns yrun 104), (40, hRep yrun 104)]
noncomputable def E0 : Env := mkEnv Try.prog tyT tyF sigT inlT annT prim0 glob0 [(18, [2008]), (20, [2009, 2010]), (29, [1006]), (30, [1006, 1011]), (39, [2002, 2003, 2004])] handT
noncomputable def codeOf (f id : Nat) : Code := match Try.prog.funcs[f]? with
  | some F => (match F.body with | some c => (findX id c).getD .skip | none => .skip)
  | none => .skip
noncomputable def rvOf (f : Nat) : List ResultVar := match Try.prog.funcs[f]? with
  | some F => F.results.toList
  | none => []
abbrev TItem := TId × (Int × (Int × (TChar × (TChar × (Bool × (Bool × (List UInt8 × Unit)))))))
abbrev TRun := TItem × Unit
abbrev TRCall := Int × (Int × (TItem × (TCut × Unit)))
def zItem : TItem := (((0 : Int), ((0 : Int), ())), ((0 : Int), ((0 : Int), ((((0 : Int), ((0 : Int), ())), ((0 : Int), ())), ((((0 : Int), ((0 : Int), ())), ((0 : Int), ())), (false, (false, (([] : List (UInt8)), ()))))))))
def zRun : TRun := (zItem, ())
def zRC : TRCall := ((0 : Int), ((0 : Int), (zItem, ((((0 : Int), ((0 : Int), ())), ((0 : Int), ((0 : Int), ()))), ()))))
end Go.Proofs.Ythlpjdjipchdkaa.E

namespace Go.Proofs.Ythlpjdjipchdkaa.E
open Go
set_option linter.unusedVariables false
set_option maxRecDepth 100000
noncomputable def F_slicesInsertrunsrun (k : Nat) (a0 : List (TRun)) (a1 : Int) (a2 : List (TRun)) : Option (((List (TRun)) × (Unit)) × (Unit)) := fnE E0 k 28 (a0, a1, a2, ())
noncomputable def F_slicesReplacerunsrun (k : Nat) (a0 : List (TRun)) (a1 : Int) (a2 : Int) (a3 : List (TRun)) : Option (((List (TRun)) × (Unit)) × (Unit)) := fnE E0 k 40 (a0, a1, a2, a3, ())
noncomputable def F_runsRowText (k : Nat) (a0 : (List (TRun)) × (Unit)) : Option (((List (UInt8)) × (Unit)) × (Unit)) := fnE E0 k 21 (a0, ())
theorem F_slicesInsertrunsrun_step (k : Nat) (a0 : List (TRun)) (a1 : Int) (a2 : List (TRun)) : F_slicesInsertrunsrun (k + 1) a0 a1 a2 =
  br (leB a1 (List.length a0) && decide ((List.length a0 + List.length a2) * 104 ≤ 140737488355328)) (some ((List.take a1.toNat a0 ++ a2 ++ List.drop a1.toNat a0, ()), ())) none := by kernel_rfl
theorem F_slicesReplacerunsrun_step (k : Nat) (a0 : List (TRun)) (a1 a2 : Int) (a3 : List (TRun)) : F_slicesReplacerunsrun (k + 1) a0 a1 a2 a3 =
  br (decide (0 ≤ a1) && decide (a1 < a2) && leB a2 (List.length a0) && decide (a2 < a1 + (List.length a3 : Int)) && decide ((List.length a0 + List.length a3) * 104 ≤ 140737488355328)) (some ((List.take a1.toNat a0 ++ a3 ++ List.drop a2.toNat a0, ()), ())) none := by kernel_rfl
theorem F_runsRowText_step (k : Nat) (a0 : List (TRun)) (u : Unit) : F_runsRowText (k + 1) (a0, u) =
  br (decide (List.length a0 ≤ 2 ^ 40) && decide ((txtOf a0).length ≤ 140737488355328)) (some ((txtOf a0, ()), ())) none := by kernel_rfl
end Go.Proofs.Ythlpjdjipchdkaa.E

namespace Go.Proofs.Ythlpjdjipchdkaa.E
open Go
set_option linter.unusedVariables false
set_option maxRecDepth 100000
noncomputable def F_runsNew (k : Nat)  : Option ((((List (TRun)) × (Unit)) × (Unit)) × (Unit)) := fnE E0 k 9 ()
noncomputable def F_ref03RightOp (k : Nat) (a0 : TId) : Option (((Bool) × (Unit)) × (Unit)) := fnE E0 k 31 (a0, ())
noncomputable def F_stampRightOp (k : Nat) (a0 : TId) : Option (((Bool) × (Unit)) × (Unit)) := fnE E0 k 36 (a0, ())
noncomputable def F_runsrunhas (k : Nat) (a0 : TRun) (a1 : TChar) : Option (((Bool) × (Unit)) × (Unit)) := fnE E0 k 32 (a0, a1, ())
noncomputable def F_runsrunlive (k : Nat) (a0 : TRun) : Option (((Int) × (Unit)) × (Unit)) := fnE E0 k 33 (a0, ())
noncomputable def F_runsrunjoins (k : Nat) (a0 : TRun) (a1 : TRun) : Option (((Bool) × (Unit)) × (Unit)) := fnE E0 k 43 (a0, a1, ())
noncomputable def F_law10item (k : Nat) (a0 : Int) (a1 : Int) (a2 : Int) (a3 : List (UInt8)) : Option ((TRun) × (Unit)) := fnE E0 k 24 (a0, a1, a2, a3, ())
noncomputable def F_runsright (k : Nat) (a0 : TItem) : Option (((Bool) × (Unit)) × (Unit)) := fnE E0 k 25 (a0, ())
noncomputable def F_runsRowLen (k : Nat) (a0 : (List (TRun)) × (Unit)) : Option (((Int) × (Unit)) × (Unit)) := fnE E0 k 15 (a0, ())
noncomputable def F_runsRowLive (k : Nat) (a0 : (List (TRun)) × (Unit)) : Option (((Int) × (Unit)) × (Unit)) := fnE E0 k 23 (a0, ())
noncomputable def F_runsRowRuns (k : Nat) (a0 : (List (TRun)) × (Unit)) : Option (((List (TItem)) × (Unit)) × (Unit)) := fnE E0 k 12 (a0, ())
noncomputable def F_runsRowFind (k : Nat) (a0 : (List (TRun)) × (Unit)) (a1 : TChar) : Option (((Int) × ((Bool) × (Unit))) × (Unit)) := fnE E0 k 16 (a0, a1, ())
noncomputable def F_ref10RowFind (k : Nat) (a0 : (List (TItem)) × (Unit)) (a1 : TChar) : Option (((Int) × ((Bool) × (Unit))) × (Unit)) := fnE E0 k 17 (a0, a1, ())
noncomputable def F_ref00SameItems (k : Nat) (a0 : List (TItem)) (a1 : List (TItem)) : Option (((Bool) × (Unit)) × (Unit)) := fnE E0 k 19 (a0, a1, ())
noncomputable def F_ref10RowText (k : Nat) (a0 : (List (TItem)) × (Unit)) : Option (((List (UInt8)) × (Unit)) × (Unit)) := fnE E0 k 22 (a0, ())
theorem F_runsNew_step (k : Nat)  : F_runsNew (k + 1)  =
  (some (((([] : List (TRun)), ()), ()), ())) := by kernel_rfl
theorem F_ref03RightOp_step (k : Nat) (a0 : TId) : F_ref03RightOp (k + 1) a0 =
  (some (((cond (cond (cond (decide (a0.1 ≥ (0 : Int))) (decide (a0.1 ≤ (15 : Int))) false) (decide (a0.2.1 ≥ (1 : Int))) false) (decide (a0.2.1 ≤ (1048576 : Int))) false), ()), ())) := by kernel_rfl
theorem F_stampRightOp_step (k : Nat) (a0 : TId) : F_stampRightOp (k + 1) a0 =
  (some (((cond (cond (cond (decide (a0.1 ≥ (0 : Int))) (decide (a0.1 < (16 : Int))) false) (decide (a0.2.1 ≥ (1 : Int))) false) (decide (a0.2.1 ≤ (1048576 : Int))) false), ()), ())) := by kernel_rfl
theorem F_runsrunhas_step (k : Nat) (a0 : TRun) (a1 : TChar) : F_runsrunhas (k + 1) a0 a1 =
  (some (((cond (cond (denEq (.pair (.int .i64) (.pair (.int .i64) .unit)) a0.1.1 a1.1) (decide (a1.2.1 ≥ a0.1.2.1)) false) (decide (a1.2.1 < (IntKind.wrap (IntKind.i64) (a0.1.2.1 + a0.1.2.2.1)))) false), ()), ())) := by kernel_rfl
theorem F_runsrunlive_step (k : Nat) (a0 : TRun) : F_runsrunlive (k + 1) a0 =
  (br (cond a0.1.2.2.2.2.2.1 true a0.1.2.2.2.2.2.2.1)
   (some (((0 : Int), ()), ()))
   (some ((a0.1.2.2.1, ()), ()))) := by kernel_rfl
theorem F_runsrunjoins_step (k : Nat) (a0 : TRun) (a1 : TRun) : F_runsrunjoins (k + 1) a0 a1 =
  (some (((cond (cond (cond (cond (denEq (.pair (.int .i64) (.pair (.int .i64) .unit)) a0.1.1 a1.1.1) ((IntKind.wrap (IntKind.i64) (a0.1.2.1 + a0.1.2.2.1)) == a1.1.2.1) false) (a0.1.2.2.2.2.2.1 == a1.1.2.2.2.2.2.1) false) (!a0.1.2.2.2.2.2.2.1) false) (!a1.1.2.2.2.2.2.2.1) false), ()), ())) := by kernel_rfl
theorem F_law10item_step (k : Nat) (a0 : Int) (a1 : Int) (a2 : Int) (a3 : List (UInt8)) : F_law10item (k + 1) a0 a1 a2 a3 =
  (some ((((a0, (a1, ())), (a2, ((((List.length a3) : Nat) : Int), ((((0 : Int), ((0 : Int), ())), ((0 : Int), ())), ((((0 : Int), ((0 : Int), ())), ((0 : Int), ())), (false, (false, (a3, ())))))))), ()), ())) := by kernel_rfl
theorem F_runsright_step (k : Nat) (a0 : TItem) : F_runsright (k + 1) a0 =
  (bd (F_stampRightOp k a0.1) (fun (r : ((Bool) × (Unit)) × (Unit)) => (br (cond (cond (cond (cond (!r.1.1) true (decide (a0.2.2.1 < (1 : Int)))) true (decide (a0.2.2.1 > (64 : Int)))) true (decide (a0.2.1 < (0 : Int)))) true (decide (a0.2.1 > (64 : Int))))
    (some ((false, ()), ()))
    (some (((cond (cond (decide ((IntKind.wrap (IntKind.i64) (a0.2.1 + a0.2.2.1)) ≤ (64 : Int))) ((((List.length a0.2.2.2.2.2.2.2.1) : Nat) : Int) == a0.2.2.1) false) (cond (!a0.2.2.2.2.2.2.1) true (a0.2.2.1 == (1 : Int))) false), ()), ()))))) := by kernel_rfl
noncomputable def L_runsRowLen_0 (k : Nat) (s0 : List (TRun)) (s1 : Int) : Nat → TId → Option (LO ((Int) × (Unit)) (TId) (Unit)) :=
  loopF true 0 22 16000000 15 cut16000000_15_0 (s0, s1, ()) (fun σ K => bodyAt E0 (fnE E0 k) (inl5 E0 (fnE E0 k) k) 15 (rvOf 15) k (codeOf 15 0) _ σ K)
theorem L_runsRowLen_0_step (k m : Nat) (s0 : List (TRun)) (s1 : Int) (x0 : Int) (x1 : Int) : L_runsRowLen_0 k s0 s1 (m + 1) (x0, x1, ()) =
  (br (decide (x1 < s1))
   (br (inB x1 (List.length s0))
    (L_runsRowLen_0 k s0 s1 m ((IntKind.wrap (IntKind.i64) (x0 + (List.getD s0 (Int.toNat x1) zRun).1.2.2.1)), ((IntKind.wrap (IntKind.i64) (x1 + (1 : Int))), ())))
    none)
   (some (.brk (x0, (x1, ()))))) := by kernel_rfl
theorem F_runsRowLen_step (k : Nat) (a0 : (List (TRun)) × (Unit)) : F_runsRowLen (k + 1) a0 =
  (bdL (L_runsRowLen_0 k a0.1 (((List.length a0.1) : Nat) : Int) k ((0 : Int), ((0 : Int), ())))
   (fun (b : TId) => (some ((b.1, ()), ())))
   (fun (j : Nat) => (fun (b : TId) => none))
   (fun (q : (Int) × (Unit)) => (fun (b : Unit) => (some (q, ()))))) := by kernel_rfl
noncomputable def L_runsRowLive_0 (k : Nat) (s0 : List (TRun)) (s1 : Int) : Nat → TId → Option (LO ((Int) × (Unit)) (TId) (Unit)) :=
  loopF true 0 21 24000000 23 cut24000000_23_0 (s0, s1, ()) (fun σ K => bodyAt E0 (fnE E0 k) (inl5 E0 (fnE E0 k) k) 23 (rvOf 23) k (codeOf 23 0) _ σ K)
theorem L_runsRowLive_0_step (k m : Nat) (s0 : List (TRun)) (s1 : Int) (x0 : Int) (x1 : Int) : L_runsRowLive_0 k s0 s1 (m + 1) (x0, x1, ()) =
  (br (decide (x1 < s1))
   (br (inB x1 (List.length s0))
    (bd (F_runsrunlive k (List.getD s0 (Int.toNat x1) zRun)) (fun (r : ((Int) × (Unit)) × (Unit)) => (L_runsRowLive_0 k s0 s1 m ((IntKind.wrap (IntKind.i64) (x0 + r.1.1)), ((IntKind.wrap (IntKind.i64) (x1 + (1 : Int))), ())))))
    none)
   (some (.brk (x0, (x1, ()))))) := by kernel_rfl
theorem F_runsRowLive_step (k : Nat) (a0 : (List (TRun)) × (Unit)) : F_runsRowLive (k + 1) a0 =
  (bdL (L_runsRowLive_0 k a0.1 (((List.length a0.1) : Nat) : Int) k ((0 : Int), ((0 : Int), ())))
   (fun (b : TId) => (some ((b.1, ()), ())))
   (fun (j : Nat) => (fun (b : TId) => none))
   (fun (q : (Int) × (Unit)) => (fun (b : Unit) => (some (q, ()))))) := by kernel_rfl
noncomputable def L_runsRowRuns_0 (k : Nat) (s0 : List (TRun)) (s1 : Int) : Nat → (List (TItem)) × ((Int) × (Unit)) → Option (LO ((List (TItem)) × (Unit)) ((List (TItem)) × ((Int) × (Unit))) (Unit)) :=
  loopF true 0 22 13000000 12 cut13000000_12_0 (s0, s1, ()) (fun σ K => bodyAt E0 (fnE E0 k) (inl5 E0 (fnE E0 k) k) 12 (rvOf 12) k (codeOf 12 0) _ σ K)
theorem L_runsRowRuns_0_step (k m : Nat) (s0 : List (TRun)) (s1 : Int) (x0 : List (TItem)) (x1 : Int) : L_runsRowRuns_0 k s0 s1 (m + 1) (x0, x1, ()) =
  (br (decide (x1 < s1))
   (br (inB x1 (List.length s0))
    (br (decide ((((List.length x0) + (List.length ((List.getD s0 (Int.toNat x1) zRun).1 :: ([] : List (TItem))))) * (104 : Nat)) ≤ (140737488355328 : Nat)))
     (L_runsRowRuns_0 k s0 s1 m ((x0 ++ ((List.getD s0 (Int.toNat x1) zRun).1 :: ([] : List (TItem)))), ((IntKind.wrap (IntKind.i64) (x1 + (1 : Int))), ())))
     none)
    none)
   (some (.brk (x0, (x1, ()))))) := by kernel_rfl
theorem F_runsRowRuns_step (k : Nat) (a0 : (List (TRun)) × (Unit)) : F_runsRowRuns (k + 1) a0 =
  (bdL (L_runsRowRuns_0 k a0.1 (((List.length a0.1) : Nat) : Int) k (([] : List (TItem)), ((0 : Int), ())))
   (fun (b : (List (TItem)) × ((Int) × (Unit))) => (some ((b.1, ()), ())))
   (fun (j : Nat) => (fun (b : (List (TItem)) × ((Int) × (Unit))) => none))
   (fun (q : (List (TItem)) × (Unit)) => (fun (b : Unit) => (some (q, ()))))) := by kernel_rfl
noncomputable def L_runsRowFind_0 (k : Nat) (s0 : TChar) (s1 : List (TRun)) (s2 : Int) : Nat → (Int) × ((Bool) × (TId)) → Option (LO ((Int) × ((Bool) × (Unit))) ((Int) × ((Bool) × (TId))) (Unit)) :=
  loopF true 0 35 17000000 16 cut17000000_16_0 (s0, s1, s2, ()) (fun σ K => bodyAt E0 (fnE E0 k) (inl5 E0 (fnE E0 k) k) 16 (rvOf 16) k (codeOf 16 0) _ σ K)
theorem L_runsRowFind_0_step (k m : Nat) (s0 : TChar) (s1 : List (TRun)) (s2 : Int) (x0 : Int) (x1 : Bool) (x2 : Int) (x3 : Int) : L_runsRowFind_0 k s0 s1 s2 (m + 1) (x0, x1, x2, x3, ()) =
  (br (decide (x3 < s2))
   (br (inB x3 (List.length s1))
    (bd (F_runsrunhas k (List.getD s1 (Int.toNat x3) zRun) s0) (fun (r : ((Bool) × (Unit)) × (Unit)) => (br r.1.1
      (some (.ret ((IntKind.wrap (IntKind.i64) ((IntKind.wrap (IntKind.i64) (x2 + s0.2.1)) - (List.getD s1 (Int.toNat x3) zRun).1.2.1)), (true, ())) ()))
      (L_runsRowFind_0 k s0 s1 s2 m (x0, (x1, ((IntKind.wrap (IntKind.i64) (x2 + (List.getD s1 (Int.toNat x3) zRun).1.2.2.1)), ((IntKind.wrap (IntKind.i64) (x3 + (1 : Int))), ()))))))))
    none)
   (some (.brk (x0, (x1, (x2, (x3, ()))))))) := by kernel_rfl
theorem F_runsRowFind_step (k : Nat) (a0 : (List (TRun)) × (Unit)) (a1 : TChar) : F_runsRowFind (k + 1) a0 a1 =
  (bdL (L_runsRowFind_0 k a1 a0.1 (((List.length a0.1) : Nat) : Int) k ((0 : Int), (false, ((0 : Int), ((0 : Int), ())))))
   (fun (b : (Int) × ((Bool) × (TId))) => (some (((0 : Int), (false, ())), ())))
   (fun (j : Nat) => (fun (b : (Int) × ((Bool) × (TId))) => none))
   (fun (q : (Int) × ((Bool) × (Unit))) => (fun (b : Unit) => (some (q, ()))))) := by kernel_rfl
noncomputable def L_ref10RowFind_0 (k : Nat) (s0 : (List (TItem)) × (Unit)) (s1 : TChar) : Nat → (Int) × ((Bool) × ((Int) × (Unit))) → Option (LO ((Int) × ((Bool) × (Unit))) ((Int) × ((Bool) × ((Int) × (Unit)))) (Unit)) :=
  loopF true 0 41 18000000 17 cut18000000_17_0 (s0, s1, ()) (fun σ K => bodyAt E0 (fnE E0 k) (inl5 E0 (fnE E0 k) k) 17 (rvOf 17) k (codeOf 17 0) _ σ K)
theorem L_ref10RowFind_0_step (k m : Nat) (s0 : (List (TItem)) × (Unit)) (s1 : TChar) (x0 : Int) (x1 : Bool) (x2 : Int) : L_ref10RowFind_0 k s0 s1 (m + 1) (x0, x1, x2, ()) =
  (br (decide (x2 < (((List.length s0.1) : Nat) : Int)))
   (br (inB x2 (List.length s0.1))
    (br (boolEq (denEq (.pair (.int .i64) (.pair (.int .i64) .unit)) (List.getD s0.1 (Int.toNat x2) zItem).1 s1.1) true)
     (br (inB x2 (List.length s0.1))
      (br (cond true ((List.getD s0.1 (Int.toNat x2) zItem).2.1 == s1.2.1) false)
       (some (.ret (x2, (true, ())) ()))
       (L_ref10RowFind_0 k s0 s1 m (x0, (x1, ((IntKind.wrap (IntKind.i64) (x2 + (1 : Int))), ())))))
      none)
     (L_ref10RowFind_0 k s0 s1 m (x0, (x1, ((IntKind.wrap (IntKind.i64) (x2 + (1 : Int))), ())))))
    none)
   (some (.brk (x0, (x1, (x2, ())))))) :=
 (show L_ref10RowFind_0 k s0 s1 (m + 1) (x0, x1, x2, ()) =
  (br (decide (x2 < (((List.length s0.1) : Nat) : Int)))
   (br (inB x2 (List.length s0.1))
    (br (boolEq (denEq (.pair (.int .i64) (.pair (.int .i64) .unit)) (List.getD s0.1 (Int.toNat x2) zItem).1 s1.1) true)
     (br (inB x2 (List.length s0.1))
      (br (cond true ((List.getD s0.1 (Int.toNat x2) zItem).2.1 == s1.2.1) false)
       (some (.ret (x2, (true, ())) ()))
       (L_ref10RowFind_0 k s0 s1 m (x0, (x1, ((IntKind.wrap (IntKind.i64) (x2 + (1 : Int))), ())))))
      none)
     (both
      (L_ref10RowFind_0 k s0 s1 m (x0, (x1, ((IntKind.wrap (IntKind.i64) (x2 + (1 : Int))), ()))))
      (L_ref10RowFind_0 k s0 s1 m (x0, (x1, ((IntKind.wrap (IntKind.i64) (x2 + (1 : Int))), ()))))))
    none)
   (some (.brk (x0, (x1, (x2, ())))))) by kernel_rfl).trans (by simp only [both_self])
theorem F_ref10RowFind_step (k : Nat) (a0 : (List (TItem)) × (Unit)) (a1 : TChar) : F_ref10RowFind (k + 1) a0 a1 =
  (bdL (L_ref10RowFind_0 k a0 a1 k ((0 : Int), (false, ((0 : Int), ()))))
   (fun (b : (Int) × ((Bool) × ((Int) × (Unit)))) => (some (((0 : Int), (false, ())), ())))
   (fun (j : Nat) => (fun (b : (Int) × ((Bool) × ((Int) × (Unit)))) => none))
   (fun (q : (Int) × ((Bool) × (Unit))) => (fun (b : Unit) => (some (q, ()))))) := by kernel_rfl
noncomputable def L_ref00SameItems_0 (k : Nat) (s0 : List (TItem)) (s1 : List (TItem)) : Nat → (Bool) × ((Int) × (Unit)) → Option (LO ((Bool) × (Unit)) ((Bool) × ((Int) × (Unit))) (Unit)) :=
  loopF true 0 26 20000000 19 cut20000000_19_0 (s0, s1, ()) (fun σ K => bodyAt E0 (fnE E0 k) (inl5 E0 (fnE E0 k) k) 19 (rvOf 19) k (codeOf 19 0) _ σ K)
theorem L_ref00SameItems_0_step (k m : Nat) (s0 : List (TItem)) (s1 : List (TItem)) (x0 : Bool) (x1 : Int) : L_ref00SameItems_0 k s0 s1 (m + 1) (x0, x1, ()) =
  (br (decide (x1 < (((List.length s0) : Nat) : Int)))
   (br (inB x1 (List.length s0))
    (br (inB x1 (List.length s1))
     (br (!(denEq (.pair (.pair (.int .i64) (.pair (.int .i64) .unit)) (.pair (.int .i64) (.pair (.int .i64) (.pair (.pair (.pair (.int .i64) (.pair (.int .i64) .unit)) (.pair (.int .i64) .unit)) (.pair (.pair (.pair (.int .i64) (.pair (.int .i64) .unit)) (.pair (.int .i64) .unit)) (.pair .bool (.pair .bool (.pair .str .unit)))))))) (List.getD s0 (Int.toNat x1) zItem) (List.getD s1 (Int.toNat x1) zItem)))
      (some (.ret (false, ()) ()))
      (L_ref00SameItems_0 k s0 s1 m (x0, ((IntKind.wrap (IntKind.i64) (x1 + (1 : Int))), ()))))
     none)
    none)
   (some (.brk (x0, (x1, ()))))) := by kernel_rfl
theorem F_ref00SameItems_step (k : Nat) (a0 : List (TItem)) (a1 : List (TItem)) : F_ref00SameItems (k + 1) a0 a1 =
  (br ((((List.length a0) : Nat) : Int) != (((List.length a1) : Nat) : Int))
   (some ((false, ()), ()))
   (bdL (L_ref00SameItems_0 k a0 a1 k (false, ((0 : Int), ())))
    (fun (b : (Bool) × ((Int) × (Unit))) => (some ((true, ()), ())))
    (fun (j : Nat) => (fun (b : (Bool) × ((Int) × (Unit))) => none))
    (fun (q : (Bool) × (Unit)) => (fun (b : Unit) => (some (q, ())))))) := by kernel_rfl
noncomputable def L_ref10RowText_0 (k : Nat) (s0 : (List (TItem)) × (Unit)) : Nat → (List (UInt8)) × ((Int) × (Unit)) → Option (LO ((List (UInt8)) × (Unit)) ((List (UInt8)) × ((Int) × (Unit))) (Unit)) :=
  loopF true 0 45 23000000 22 cut23000000_22_0 (s0, ()) (fun σ K => bodyAt E0 (fnE E0 k) (inl5 E0 (fnE E0 k) k) 22 (rvOf 22) k (codeOf 22 0) _ σ K)
theorem L_ref10RowText_0_step (k m : Nat) (s0 : (List (TItem)) × (Unit)) (x0 : List (UInt8)) (x1 : Int) : L_ref10RowText_0 k s0 (m + 1) (x0, x1, ()) =
  (br (decide (x1 < (((List.length s0.1) : Nat) : Int)))
   (br (inB x1 (List.length s0.1))
    (br (!(List.getD s0.1 (Int.toNat x1) zItem).2.2.2.2.2.1)
     (br (inB x1 (List.length s0.1))
      (br (cond true (!(List.getD s0.1 (Int.toNat x1) zItem).2.2.2.2.2.2.1) false)
       (br (inB x1 (List.length s0.1))
        (br (decide (((List.length x0) + (List.length (List.getD s0.1 (Int.toNat x1) zItem).2.2.2.2.2.2.2.1)) ≤ (9223372036854775807 : Nat)))
         (L_ref10RowText_0 k s0 m ((x0 ++ (List.getD s0.1 (Int.toNat x1) zItem).2.2.2.2.2.2.2.1), ((IntKind.wrap (IntKind.i64) (x1 + (1 : Int))), ())))
         none)
        none)
       (L_ref10RowText_0 k s0 m (x0, ((IntKind.wrap (IntKind.i64) (x1 + (1 : Int))), ()))))
      none)
     (L_ref10RowText_0 k s0 m (x0, ((IntKind.wrap (IntKind.i64) (x1 + (1 : Int))), ()))))
    none)
   (some (.brk (x0, (x1, ()))))) := by kernel_rfl
theorem F_ref10RowText_step (k : Nat) (a0 : (List (TItem)) × (Unit)) : F_ref10RowText (k + 1) a0 =
  (bdL (L_ref10RowText_0 k a0 k (([] : List UInt8), ((0 : Int), ())))
   (fun (b : (List (UInt8)) × ((Int) × (Unit))) => (some ((b.1, ()), ())))
   (fun (j : Nat) => (fun (b : (List (UInt8)) × ((Int) × (Unit))) => none))
   (fun (q : (List (UInt8)) × (Unit)) => (fun (b : Unit) => (some (q, ()))))) := by kernel_rfl
end Go.Proofs.Ythlpjdjipchdkaa.E

namespace Go.Proofs.Ythlpjdjipchdkaa.E
open Go
set_option linter.unusedVariables false
set_option maxRecDepth 100000
noncomputable def F_runsRowAt (k : Nat) (a0 : (List (TRun)) × (Unit)) (a1 : Int) : Option (((TItem) × ((Bool) × (Unit))) × (Unit)) := fnE E0 k 18 (a0, a1, ())
noncomputable def F_runsrunparts (k : Nat) (a0 : TRun) (a1 : Int) : Option (((TRun) × ((TRun) × (Unit))) × (Unit)) := fnE E0 k 39 (a0, a1, ())
noncomputable def F_ref10RowCut (k : Nat) (a0 : (List (TItem)) × (Unit)) (a1 : TCut) : Option (((Int) × (Unit)) × (((List (TItem)) × (Unit)) × (Unit))) := fnE E0 k 14 (a0, a1, ())
noncomputable def F_ref10RowRuns (k : Nat) (a0 : (List (TItem)) × (Unit)) : Option (((List (TItem)) × (Unit)) × (Unit)) := fnE E0 k 20 (a0, ())
noncomputable def F_runsRowmend (k : Nat) (a0 : (List (TRun)) × (Unit)) : Option ((Unit) × (((List (TRun)) × (Unit)) × (Unit))) := fnE E0 k 29 (a0, ())
noncomputable def L_runsRowAt_0 (k : Nat) (s0 : Unit) (s1 : List (TRun)) (s2 : Int) : Nat → (Int) × ((Bool) × ((Int) × (TRun))) → Option (LO ((TItem) × ((Bool) × (Unit))) ((Int) × ((Bool) × ((Int) × (TRun)))) (TRun)) :=
  loopF true 0 51 19000000 18 cut19000000_18_0 (s0, s1, s2, ()) (fun σ K => bodyAt E0 (fnE E0 k) (inl5 E0 (fnE E0 k) k) 18 (rvOf 18) k (codeOf 18 0) _ σ K)
noncomputable def L_runsRowAt_2008 (k : Nat) (s0 : Int) (s1 : TRun) (s2 : Unit) : Nat → TRun → Option (LO ((TItem) × ((Bool) × (Unit))) (TRun) (TRun)) :=
  loopF false 2008 51 19000000 18 cut19000000_18_2008 (s0, s1, s2, ()) (fun σ K => bodyAt E0 (fnE E0 k) (inl5 E0 (fnE E0 k) k) 18 (rvOf 18) k (codeOf 18 2008) _ σ K)
theorem L_runsRowAt_0_step (k m : Nat) (s0 : Unit) (s1 : List (TRun)) (s2 : Int) (x0 : Int) (x1 : Bool) (x2 : Int) (x3 : TItem) : L_runsRowAt_0 k s0 s1 s2 (m + 1) (x0, x1, x2, x3, ()) =
  (br (decide (x2 < s2))
   (br (inB x2 (List.length s1))
    (br (decide (x0 < (List.getD s1 (Int.toNat x2) zRun).1.2.2.1))
     (bdL (L_runsRowAt_2008 k x0 (List.getD s1 (Int.toNat x2) zRun) () (1 : Nat) ((List.getD s1 (Int.toNat x2) zRun).1, ()))
      (fun (b : TRun) => (some (.ret (b.1, (true, ())) (b.1, ()))))
      (fun (j : Nat) => (fun (b : TRun) => (br (Nat.beq j (1 : Nat))
       (L_runsRowAt_0 k s0 s1 s2 m (x0, (x1, ((IntKind.wrap (IntKind.i64) (x2 + (1 : Int))), (x3, ())))))
       (br (Nat.beq j (0 : Nat))
        (some (.brk (x0, (x1, (x2, (x3, ()))))))
        (some (.ext j (x0, (x1, (x2, (x3, ()))))))))))
      (fun (q : (TItem) × ((Bool) × (Unit))) => (fun (b : TRun) => (some (.ret q (x3, ()))))))
     (L_runsRowAt_0 k s0 s1 s2 m ((IntKind.wrap (IntKind.i64) (x0 - (List.getD s1 (Int.toNat x2) zRun).1.2.2.1)), (x1, ((IntKind.wrap (IntKind.i64) (x2 + (1 : Int))), (x3, ()))))))
    none)
   (some (.brk (x0, (x1, (x2, (x3, ()))))))) := by kernel_rfl
theorem L_runsRowAt_2008_step (k m : Nat) (s0 : Int) (s1 : TRun) (s2 : Unit) (x0 : TItem) : L_runsRowAt_2008 k s0 s1 s2 (m + 1) (x0, ()) =
  (br ((true && (leB (IntKind.wrap (IntKind.i64) (s0 + (1 : Int))) (List.length s1.1.2.2.2.2.2.2.2.1))) && (leB s0 (Int.toNat (IntKind.wrap (IntKind.i64) (s0 + (1 : Int))))))
     (some (.brk ((x0.1, ((IntKind.wrap (IntKind.i64) (s1.1.2.1 + s0)), ((1 : Int), (x0.2.2.2.1, (x0.2.2.2.2.1, (x0.2.2.2.2.2.1, (x0.2.2.2.2.2.2.1, ((List.drop (Int.toNat s0) (List.take (Int.toNat (IntKind.wrap (IntKind.i64) (s0 + (1 : Int)))) s1.1.2.2.2.2.2.2.2.1)), x0.2.2.2.2.2.2.2.2)))))))), ())))
     none) :=
 (show L_runsRowAt_2008 k s0 s1 s2 (m + 1) (x0, ()) =
  (both
   (both
    (br ((true && (leB (IntKind.wrap (IntKind.i64) (s0 + (1 : Int))) (List.length s1.1.2.2.2.2.2.2.2.1))) && (leB s0 (Int.toNat (IntKind.wrap (IntKind.i64) (s0 + (1 : Int))))))
     (some (.brk ((x0.1, ((IntKind.wrap (IntKind.i64) (s1.1.2.1 + s0)), ((1 : Int), (x0.2.2.2.1, (x0.2.2.2.2.1, (x0.2.2.2.2.2.1, (x0.2.2.2.2.2.2.1, ((List.drop (Int.toNat s0) (List.take (Int.toNat (IntKind.wrap (IntKind.i64) (s0 + (1 : Int)))) s1.1.2.2.2.2.2.2.2.1)), x0.2.2.2.2.2.2.2.2)))))))), ())))
     none)
    (both
     (br ((true && (leB (IntKind.wrap (IntKind.i64) (s0 + (1 : Int))) (List.length s1.1.2.2.2.2.2.2.2.1))) && (leB s0 (Int.toNat (IntKind.wrap (IntKind.i64) (s0 + (1 : Int))))))
      (some (.brk ((x0.1, ((IntKind.wrap (IntKind.i64) (s1.1.2.1 + s0)), ((1 : Int), (x0.2.2.2.1, (x0.2.2.2.2.1, (x0.2.2.2.2.2.1, (x0.2.2.2.2.2.2.1, ((List.drop (Int.toNat s0) (List.take (Int.toNat (IntKind.wrap (IntKind.i64) (s0 + (1 : Int)))) s1.1.2.2.2.2.2.2.2.1)), x0.2.2.2.2.2.2.2.2)))))))), ())))
      none)
     (br ((true && (leB (IntKind.wrap (IntKind.i64) (s0 + (1 : Int))) (List.length s1.1.2.2.2.2.2.2.2.1))) && (leB s0 (Int.toNat (IntKind.wrap (IntKind.i64) (s0 + (1 : Int))))))
      (some (.brk ((x0.1, ((IntKind.wrap (IntKind.i64) (s1.1.2.1 + s0)), ((1 : Int), (x0.2.2.2.1, (x0.2.2.2.2.1, (x0.2.2.2.2.2.1, (x0.2.2.2.2.2.2.1, ((List.drop (Int.toNat s0) (List.take (Int.toNat (IntKind.wrap (IntKind.i64) (s0 + (1 : Int)))) s1.1.2.2.2.2.2.2.2.1)), x0.2.2.2.2.2.2.2.2)))))))), ())))
      none)))
   (both
    (both
     (br ((true && (leB (IntKind.wrap (IntKind.i64) (s0 + (1 : Int))) (List.length s1.1.2.2.2.2.2.2.2.1))) && (leB s0 (Int.toNat (IntKind.wrap (IntKind.i64) (s0 + (1 : Int))))))
      (some (.brk ((x0.1, ((IntKind.wrap (IntKind.i64) (s1.1.2.1 + s0)), ((1 : Int), (x0.2.2.2.1, (x0.2.2.2.2.1, (x0.2.2.2.2.2.1, (x0.2.2.2.2.2.2.1, ((List.drop (Int.toNat s0) (List.take (Int.toNat (IntKind.wrap (IntKind.i64) (s0 + (1 : Int)))) s1.1.2.2.2.2.2.2.2.1)), x0.2.2.2.2.2.2.2.2)))))))), ())))
      none)
     (br ((true && (leB (IntKind.wrap (IntKind.i64) (s0 + (1 : Int))) (List.length s1.1.2.2.2.2.2.2.2.1))) && (leB s0 (Int.toNat (IntKind.wrap (IntKind.i64) (s0 + (1 : Int))))))
      (some (.brk ((x0.1, ((IntKind.wrap (IntKind.i64) (s1.1.2.1 + s0)), ((1 : Int), (x0.2.2.2.1, (x0.2.2.2.2.1, (x0.2.2.2.2.2.1, (x0.2.2.2.2.2.2.1, ((List.drop (Int.toNat s0) (List.take (Int.toNat (IntKind.wrap (IntKind.i64) (s0 + (1 : Int)))) s1.1.2.2.2.2.2.2.2.1)), x0.2.2.2.2.2.2.2.2)))))))), ())))
      none))
    (br ((true && (leB (IntKind.wrap (IntKind.i64) (s0 + (1 : Int))) (List.length s1.1.2.2.2.2.2.2.2.1))) && (leB s0 (Int.toNat (IntKind.wrap (IntKind.i64) (s0 + (1 : Int))))))
     (some (.brk ((x0.1, ((IntKind.wrap (IntKind.i64) (s1.1.2.1 + s0)), ((1 : Int), (x0.2.2.2.1, (x0.2.2.2.2.1, (x0.2.2.2.2.2.1, (x0.2.2.2.2.2.2.1, ((List.drop (Int.toNat s0) (List.take (Int.toNat (IntKind.wrap (IntKind.i64) (s0 + (1 : Int)))) s1.1.2.2.2.2.2.2.2.1)), x0.2.2.2.2.2.2.2.2)))))))), ())))
     none))) by kernel_rfl).trans (by simp only [both_self])
theorem F_runsRowAt_step (k : Nat) (a0 : (List (TRun)) × (Unit)) (a1 : Int) : F_runsRowAt (k + 1) a0 a1 =
  (br (decide (a1 < (0 : Int)))
   (some ((zItem, (false, ())), ()))
   (bdL (L_runsRowAt_0 k () a0.1 (((List.length a0.1) : Nat) : Int) k (a1, (false, ((0 : Int), zRun))))
    (fun (b : (Int) × ((Bool) × ((Int) × (TRun)))) => (some ((zItem, (false, ())), ())))
    (fun (j : Nat) => (fun (b : (Int) × ((Bool) × ((Int) × (TRun)))) => none))
    (fun (q : (TItem) × ((Bool) × (Unit))) => (fun (b : TRun) => (some (q, ())))))) := by kernel_rfl
noncomputable def L_runsrunparts_2002 (k : Nat) (s0 : Int) (s1 : TRun) (s2 : Unit) : Nat → (TRun) × (Unit) → Option (LO ((TRun) × ((TRun) × (Unit))) ((TRun) × (Unit)) ((TRun) × (Unit))) :=
  loopF false 2002 43 40000000 39 cut40000000_39_2002 (s0, s1, s2, ()) (fun σ K => bodyAt E0 (fnE E0 k) (inl5 E0 (fnE E0 k) k) 39 (rvOf 39) k (codeOf 39 2002) _ σ K)
noncomputable def L_runsrunparts_2003 (k : Nat) (s0 : Int) (s1 : TRun) (s2 : Unit) : Nat → (TRun) × (Unit) → Option (LO ((TRun) × ((TRun) × (Unit))) ((TRun) × (Unit)) ((TRun) × (Unit))) :=
  loopF false 2003 43 40000000 39 cut40000000_39_2003 (s0, s1, s2, ()) (fun σ K => bodyAt E0 (fnE E0 k) (inl5 E0 (fnE E0 k) k) 39 (rvOf 39) k (codeOf 39 2003) _ σ K)
noncomputable def L_runsrunparts_2004 (k : Nat) (s0 : Unit) (s1 : Unit) (s2 : TRun) (s3 : TRun) : Nat → (TRun) × ((TRun) × (Unit)) → Option (LO ((TRun) × ((TRun) × (Unit))) ((TRun) × ((TRun) × (Unit))) ((TRun) × ((TRun) × (Unit)))) :=
  loopF false 2004 43 40000000 39 cut40000000_39_2004 (s0, s1, s2, s3, ()) (fun σ K => bodyAt E0 (fnE E0 k) (inl5 E0 (fnE E0 k) k) 39 (rvOf 39) k (codeOf 39 2004) _ σ K)
theorem L_runsrunparts_2002_step (k m : Nat) (s0 : Int) (s1 : TRun) (s2 : Unit) (x0 : TRun) : L_runsrunparts_2002 k s0 s1 s2 (m + 1) (x0, ()) =
  (br ((true && (leB s0 (List.length s1.1.2.2.2.2.2.2.2.1))) && true)
     (some (.brk (((x0.1.1, (x0.1.2.1, (s0, (x0.1.2.2.2.1, (x0.1.2.2.2.2.1, (x0.1.2.2.2.2.2.1, (x0.1.2.2.2.2.2.2.1, ((List.take (Int.toNat s0) s1.1.2.2.2.2.2.2.2.1), x0.1.2.2.2.2.2.2.2.2)))))))), x0.2), ())))
     none) :=
 (show L_runsrunparts_2002 k s0 s1 s2 (m + 1) (x0, ()) =
  (both
   (both
    (br ((true && (leB s0 (List.length s1.1.2.2.2.2.2.2.2.1))) && true)
     (some (.brk (((x0.1.1, (x0.1.2.1, (s0, (x0.1.2.2.2.1, (x0.1.2.2.2.2.1, (x0.1.2.2.2.2.2.1, (x0.1.2.2.2.2.2.2.1, ((List.take (Int.toNat s0) s1.1.2.2.2.2.2.2.2.1), x0.1.2.2.2.2.2.2.2.2)))))))), x0.2), ())))
     none)
    (br ((true && (leB s0 (List.length s1.1.2.2.2.2.2.2.2.1))) && true)
     (some (.brk (((x0.1.1, (x0.1.2.1, (s0, (x0.1.2.2.2.1, (x0.1.2.2.2.2.1, (x0.1.2.2.2.2.2.1, (x0.1.2.2.2.2.2.2.1, ((List.take (Int.toNat s0) s1.1.2.2.2.2.2.2.2.1), x0.1.2.2.2.2.2.2.2.2)))))))), x0.2), ())))
     none))
   (br ((true && (leB s0 (List.length s1.1.2.2.2.2.2.2.2.1))) && true)
    (some (.brk (((x0.1.1, (x0.1.2.1, (s0, (x0.1.2.2.2.1, (x0.1.2.2.2.2.1, (x0.1.2.2.2.2.2.1, (x0.1.2.2.2.2.2.2.1, ((List.take (Int.toNat s0) s1.1.2.2.2.2.2.2.2.1), x0.1.2.2.2.2.2.2.2.2)))))))), x0.2), ())))
    none)) by kernel_rfl).trans (by simp only [both_self])
theorem L_runsrunparts_2003_step (k m : Nat) (s0 : Int) (s1 : TRun) (s2 : Unit) (x0 : TRun) : L_runsrunparts_2003 k s0 s1 s2 (m + 1) (x0, ()) =
  (br (true && (leB s0 (List.length s1.1.2.2.2.2.2.2.2.1)))
       (some (.brk (((x0.1.1, ((IntKind.wrap (IntKind.i64) (s1.1.2.1 + s0)), ((IntKind.wrap (IntKind.i64) (s1.1.2.2.1 - s0)), (x0.1.2.2.2.1, (x0.1.2.2.2.2.1, (x0.1.2.2.2.2.2.1, (x0.1.2.2.2.2.2.2.1, ((List.drop (Int.toNat s0) s1.1.2.2.2.2.2.2.2.1), x0.1.2.2.2.2.2.2.2.2)))))))), x0.2), ())))
       none) :=
 (show L_runsrunparts_2003 k s0 s1 s2 (m + 1) (x0, ()) =
  (both
   (both
    (both
     (both
      (br (true && (leB s0 (List.length s1.1.2.2.2.2.2.2.2.1)))
       (some (.brk (((x0.1.1, ((IntKind.wrap (IntKind.i64) (s1.1.2.1 + s0)), ((IntKind.wrap (IntKind.i64) (s1.1.2.2.1 - s0)), (x0.1.2.2.2.1, (x0.1.2.2.2.2.1, (x0.1.2.2.2.2.2.1, (x0.1.2.2.2.2.2.2.1, ((List.drop (Int.toNat s0) s1.1.2.2.2.2.2.2.2.1), x0.1.2.2.2.2.2.2.2.2)))))))), x0.2), ())))
       none)
      (both
       (br (true && (leB s0 (List.length s1.1.2.2.2.2.2.2.2.1)))
        (some (.brk (((x0.1.1, ((IntKind.wrap (IntKind.i64) (s1.1.2.1 + s0)), ((IntKind.wrap (IntKind.i64) (s1.1.2.2.1 - s0)), (x0.1.2.2.2.1, (x0.1.2.2.2.2.1, (x0.1.2.2.2.2.2.1, (x0.1.2.2.2.2.2.2.1, ((List.drop (Int.toNat s0) s1.1.2.2.2.2.2.2.2.1), x0.1.2.2.2.2.2.2.2.2)))))))), x0.2), ())))
        none)
       (br (true && (leB s0 (List.length s1.1.2.2.2.2.2.2.2.1)))
        (some (.brk (((x0.1.1, ((IntKind.wrap (IntKind.i64) (s1.1.2.1 + s0)), ((IntKind.wrap (IntKind.i64) (s1.1.2.2.1 - s0)), (x0.1.2.2.2.1, (x0.1.2.2.2.2.1, (x0.1.2.2.2.2.2.1, (x0.1.2.2.2.2.2.2.1, ((List.drop (Int.toNat s0) s1.1.2.2.2.2.2.2.2.1), x0.1.2.2.2.2.2.2.2.2)))))))), x0.2), ())))
        none)))
     (both
      (both
       (br (true && (leB s0 (List.length s1.1.2.2.2.2.2.2.2.1)))
        (some (.brk (((x0.1.1, ((IntKind.wrap (IntKind.i64) (s1.1.2.1 + s0)), ((IntKind.wrap (IntKind.i64) (s1.1.2.2.1 - s0)), (x0.1.2.2.2.1, (x0.1.2.2.2.2.1, (x0.1.2.2.2.2.2.1, (x0.1.2.2.2.2.2.2.1, ((List.drop (Int.toNat s0) s1.1.2.2.2.2.2.2.2.1), x0.1.2.2.2.2.2.2.2.2)))))))), x0.2), ())))
        none)
       (br (true && (leB s0 (List.length s1.1.2.2.2.2.2.2.2.1)))
        (some (.brk (((x0.1.1, ((IntKind.wrap (IntKind.i64) (s1.1.2.1 + s0)), ((IntKind.wrap (IntKind.i64) (s1.1.2.2.1 - s0)), (x0.1.2.2.2.1, (x0.1.2.2.2.2.1, (x0.1.2.2.2.2.2.1, (x0.1.2.2.2.2.2.2.1, ((List.drop (Int.toNat s0) s1.1.2.2.2.2.2.2.2.1), x0.1.2.2.2.2.2.2.2.2)))))))), x0.2), ())))
        none))
      (br (true && (leB s0 (List.length s1.1.2.2.2.2.2.2.2.1)))
       (some (.brk (((x0.1.1, ((IntKind.wrap (IntKind.i64) (s1.1.2.1 + s0)), ((IntKind.wrap (IntKind.i64) (s1.1.2.2.1 - s0)), (x0.1.2.2.2.1, (x0.1.2.2.2.2.1, (x0.1.2.2.2.2.2.1, (x0.1.2.2.2.2.2.2.1, ((List.drop (Int.toNat s0) s1.1.2.2.2.2.2.2.2.1), x0.1.2.2.2.2.2.2.2.2)))))))), x0.2), ())))
       none)))
    (both
     (both
      (both
       (br (true && (leB s0 (List.length s1.1.2.2.2.2.2.2.2.1)))
        (some (.brk (((x0.1.1, ((IntKind.wrap (IntKind.i64) (s1.1.2.1 + s0)), ((IntKind.wrap (IntKind.i64) (s1.1.2.2.1 - s0)), (x0.1.2.2.2.1, (x0.1.2.2.2.2.1, (x0.1.2.2.2.2.2.1, (x0.1.2.2.2.2.2.2.1, ((List.drop (Int.toNat s0) s1.1.2.2.2.2.2.2.2.1), x0.1.2.2.2.2.2.2.2.2)))))))), x0.2), ())))
        none)
       (both
        (br (true && (leB s0 (List.length s1.1.2.2.2.2.2.2.2.1)))
         (some (.brk (((x0.1.1, ((IntKind.wrap (IntKind.i64) (s1.1.2.1 + s0)), ((IntKind.wrap (IntKind.i64) (s1.1.2.2.1 - s0)), (x0.1.2.2.2.1, (x0.1.2.2.2.2.1, (x0.1.2.2.2.2.2.1, (x0.1.2.2.2.2.2.2.1, ((List.drop (Int.toNat s0) s1.1.2.2.2.2.2.2.2.1), x0.1.2.2.2.2.2.2.2.2)))))))), x0.2), ())))
         none)
        (br (true && (leB s0 (List.length s1.1.2.2.2.2.2.2.2.1)))
         (some (.brk (((x0.1.1, ((IntKind.wrap (IntKind.i64) (s1.1.2.1 + s0)), ((IntKind.wrap (IntKind.i64) (s1.1.2.2.1 - s0)), (x0.1.2.2.2.1, (x0.1.2.2.2.2.1, (x0.1.2.2.2.2.2.1, (x0.1.2.2.2.2.2.2.1, ((List.drop (Int.toNat s0) s1.1.2.2.2.2.2.2.2.1), x0.1.2.2.2.2.2.2.2.2)))))))), x0.2), ())))
         none)))
      (both
       (br (true && (leB s0 (List.length s1.1.2.2.2.2.2.2.2.1)))
        (both
         (some (.brk (((x0.1.1, ((IntKind.wrap (IntKind.i64) (s1.1.2.1 + s0)), ((IntKind.wrap (IntKind.i64) (s1.1.2.2.1 - s0)), (x0.1.2.2.2.1, (x0.1.2.2.2.2.1, (x0.1.2.2.2.2.2.1, (x0.1.2.2.2.2.2.2.1, ((List.drop (Int.toNat s0) s1.1.2.2.2.2.2.2.2.1), x0.1.2.2.2.2.2.2.2.2)))))))), x0.2), ())))
         (some (.brk (((x0.1.1, ((IntKind.wrap (IntKind.i64) (s1.1.2.1 + s0)), ((IntKind.wrap (IntKind.i64) (s1.1.2.2.1 - s0)), (x0.1.2.2.2.1, (x0.1.2.2.2.2.1, (x0.1.2.2.2.2.2.1, (x0.1.2.2.2.2.2.2.1, ((List.drop (Int.toNat s0) s1.1.2.2.2.2.2.2.2.1), x0.1.2.2.2.2.2.2.2.2)))))))), x0.2), ()))))
        none)
       (both
        (br (true && (leB s0 (List.length s1.1.2.2.2.2.2.2.2.1)))
         (some (.brk (((x0.1.1, ((IntKind.wrap (IntKind.i64) (s1.1.2.1 + s0)), ((IntKind.wrap (IntKind.i64) (s1.1.2.2.1 - s0)), (x0.1.2.2.2.1, (x0.1.2.2.2.2.1, (x0.1.2.2.2.2.2.1, (x0.1.2.2.2.2.2.2.1, ((List.drop (Int.toNat s0) s1.1.2.2.2.2.2.2.2.1), x0.1.2.2.2.2.2.2.2.2)))))))), x0.2), ())))
         none)
        (br (true && (leB s0 (List.length s1.1.2.2.2.2.2.2.2.1)))
         (some (.brk (((x0.1.1, ((IntKind.wrap (IntKind.i64) (s1.1.2.1 + s0)), ((IntKind.wrap (IntKind.i64) (s1.1.2.2.1 - s0)), (x0.1.2.2.2.1, (x0.1.2.2.2.2.1, (x0.1.2.2.2.2.2.1, (x0.1.2.2.2.2.2.2.1, ((List.drop (Int.toNat s0) s1.1.2.2.2.2.2.2.2.1), x0.1.2.2.2.2.2.2.2.2)))))))), x0.2), ())))
         none))))
     (both
      (both
       (br (true && (leB s0 (List.length s1.1.2.2.2.2.2.2.2.1)))
        (some (.brk (((x0.1.1, ((IntKind.wrap (IntKind.i64) (s1.1.2.1 + s0)), ((IntKind.wrap (IntKind.i64) (s1.1.2.2.1 - s0)), (x0.1.2.2.2.1, (x0.1.2.2.2.2.1, (x0.1.2.2.2.2.2.1, (x0.1.2.2.2.2.2.2.1, ((List.drop (Int.toNat s0) s1.1.2.2.2.2.2.2.2.1), x0.1.2.2.2.2.2.2.2.2)))))))), x0.2), ())))
        none)
       (br (true && (leB s0 (List.length s1.1.2.2.2.2.2.2.2.1)))
        (some (.brk (((x0.1.1, ((IntKind.wrap (IntKind.i64) (s1.1.2.1 + s0)), ((IntKind.wrap (IntKind.i64) (s1.1.2.2.1 - s0)), (x0.1.2.2.2.1, (x0.1.2.2.2.2.1, (x0.1.2.2.2.2.2.1, (x0.1.2.2.2.2.2.2.1, ((List.drop (Int.toNat s0) s1.1.2.2.2.2.2.2.2.1), x0.1.2.2.2.2.2.2.2.2)))))))), x0.2), ())))
        none))
      (br (true && (leB s0 (List.length s1.1.2.2.2.2.2.2.2.1)))
       (some (.brk (((x0.1.1, ((IntKind.wrap (IntKind.i64) (s1.1.2.1 + s0)), ((IntKind.wrap (IntKind.i64) (s1.1.2.2.1 - s0)), (x0.1.2.2.2.1, (x0.1.2.2.2.2.1, (x0.1.2.2.2.2.2.1, (x0.1.2.2.2.2.2.2.1, ((List.drop (Int.toNat s0) s1.1.2.2.2.2.2.2.2.1), x0.1.2.2.2.2.2.2.2.2)))))))), x0.2), ())))
       none))))
   (both
    (both
     (both
      (br (true && (leB s0 (List.length s1.1.2.2.2.2.2.2.2.1)))
       (some (.brk (((x0.1.1, ((IntKind.wrap (IntKind.i64) (s1.1.2.1 + s0)), ((IntKind.wrap (IntKind.i64) (s1.1.2.2.1 - s0)), (x0.1.2.2.2.1, (x0.1.2.2.2.2.1, (x0.1.2.2.2.2.2.1, (x0.1.2.2.2.2.2.2.1, ((List.drop (Int.toNat s0) s1.1.2.2.2.2.2.2.2.1), x0.1.2.2.2.2.2.2.2.2)))))))), x0.2), ())))
       none)
      (both
       (br (true && (leB s0 (List.length s1.1.2.2.2.2.2.2.2.1)))
        (some (.brk (((x0.1.1, ((IntKind.wrap (IntKind.i64) (s1.1.2.1 + s0)), ((IntKind.wrap (IntKind.i64) (s1.1.2.2.1 - s0)), (x0.1.2.2.2.1, (x0.1.2.2.2.2.1, (x0.1.2.2.2.2.2.1, (x0.1.2.2.2.2.2.2.1, ((List.drop (Int.toNat s0) s1.1.2.2.2.2.2.2.2.1), x0.1.2.2.2.2.2.2.2.2)))))))), x0.2), ())))
        none)
       (br (true && (leB s0 (List.length s1.1.2.2.2.2.2.2.2.1)))
        (some (.brk (((x0.1.1, ((IntKind.wrap (IntKind.i64) (s1.1.2.1 + s0)), ((IntKind.wrap (IntKind.i64) (s1.1.2.2.1 - s0)), (x0.1.2.2.2.1, (x0.1.2.2.2.2.1, (x0.1.2.2.2.2.2.1, (x0.1.2.2.2.2.2.2.1, ((List.drop (Int.toNat s0) s1.1.2.2.2.2.2.2.2.1), x0.1.2.2.2.2.2.2.2.2)))))))), x0.2), ())))
        none)))
     (both
      (both
       (br (true && (leB s0 (List.length s1.1.2.2.2.2.2.2.2.1)))
        (some (.brk (((x0.1.1, ((IntKind.wrap (IntKind.i64) (s1.1.2.1 + s0)), ((IntKind.wrap (IntKind.i64) (s1.1.2.2.1 - s0)), (x0.1.2.2.2.1, (x0.1.2.2.2.2.1, (x0.1.2.2.2.2.2.1, (x0.1.2.2.2.2.2.2.1, ((List.drop (Int.toNat s0) s1.1.2.2.2.2.2.2.2.1), x0.1.2.2.2.2.2.2.2.2)))))))), x0.2), ())))
        none)
       (br (true && (leB s0 (List.length s1.1.2.2.2.2.2.2.2.1)))
        (some (.brk (((x0.1.1, ((IntKind.wrap (IntKind.i64) (s1.1.2.1 + s0)), ((IntKind.wrap (IntKind.i64) (s1.1.2.2.1 - s0)), (x0.1.2.2.2.1, (x0.1.2.2.2.2.1, (x0.1.2.2.2.2.2.1, (x0.1.2.2.2.2.2.2.1, ((List.drop (Int.toNat s0) s1.1.2.2.2.2.2.2.2.1), x0.1.2.2.2.2.2.2.2.2)))))))), x0.2), ())))
        none))
      (br (true && (leB s0 (List.length s1.1.2.2.2.2.2.2.2.1)))
       (some (.brk (((x0.1.1, ((IntKind.wrap (IntKind.i64) (s1.1.2.1 + s0)), ((IntKind.wrap (IntKind.i64) (s1.1.2.2.1 - s0)), (x0.1.2.2.2.1, (x0.1.2.2.2.2.1, (x0.1.2.2.2.2.2.1, (x0.1.2.2.2.2.2.2.1, ((List.drop (Int.toNat s0) s1.1.2.2.2.2.2.2.2.1), x0.1.2.2.2.2.2.2.2.2)))))))), x0.2), ())))
       none)))
    (both
     (both
      (both
       (br (true && (leB s0 (List.length s1.1.2.2.2.2.2.2.2.1)))
        (some (.brk (((x0.1.1, ((IntKind.wrap (IntKind.i64) (s1.1.2.1 + s0)), ((IntKind.wrap (IntKind.i64) (s1.1.2.2.1 - s0)), (x0.1.2.2.2.1, (x0.1.2.2.2.2.1, (x0.1.2.2.2.2.2.1, (x0.1.2.2.2.2.2.2.1, ((List.drop (Int.toNat s0) s1.1.2.2.2.2.2.2.2.1), x0.1.2.2.2.2.2.2.2.2)))))))), x0.2), ())))
        none)
       (both
        (br (true && (leB s0 (List.length s1.1.2.2.2.2.2.2.2.1)))
         (some (.brk (((x0.1.1, ((IntKind.wrap (IntKind.i64) (s1.1.2.1 + s0)), ((IntKind.wrap (IntKind.i64) (s1.1.2.2.1 - s0)), (x0.1.2.2.2.1, (x0.1.2.2.2.2.1, (x0.1.2.2.2.2.2.1, (x0.1.2.2.2.2.2.2.1, ((List.drop (Int.toNat s0) s1.1.2.2.2.2.2.2.2.1), x0.1.2.2.2.2.2.2.2.2)))))))), x0.2), ())))
         none)
        (br (true && (leB s0 (List.length s1.1.2.2.2.2.2.2.2.1)))
         (some (.brk (((x0.1.1, ((IntKind.wrap (IntKind.i64) (s1.1.2.1 + s0)), ((IntKind.wrap (IntKind.i64) (s1.1.2.2.1 - s0)), (x0.1.2.2.2.1, (x0.1.2.2.2.2.1, (x0.1.2.2.2.2.2.1, (x0.1.2.2.2.2.2.2.1, ((List.drop (Int.toNat s0) s1.1.2.2.2.2.2.2.2.1), x0.1.2.2.2.2.2.2.2.2)))))))), x0.2), ())))
         none)))
      (both
       (br (true && (leB s0 (List.length s1.1.2.2.2.2.2.2.2.1)))
        (both
         (some (.brk (((x0.1.1, ((IntKind.wrap (IntKind.i64) (s1.1.2.1 + s0)), ((IntKind.wrap (IntKind.i64) (s1.1.2.2.1 - s0)), (x0.1.2.2.2.1, (x0.1.2.2.2.2.1, (x0.1.2.2.2.2.2.1, (x0.1.2.2.2.2.2.2.1, ((List.drop (Int.toNat s0) s1.1.2.2.2.2.2.2.2.1), x0.1.2.2.2.2.2.2.2.2)))))))), x0.2), ())))
         (some (.brk (((x0.1.1, ((IntKind.wrap (IntKind.i64) (s1.1.2.1 + s0)), ((IntKind.wrap (IntKind.i64) (s1.1.2.2.1 - s0)), (x0.1.2.2.2.1, (x0.1.2.2.2.2.1, (x0.1.2.2.2.2.2.1, (x0.1.2.2.2.2.2.2.1, ((List.drop (Int.toNat s0) s1.1.2.2.2.2.2.2.2.1), x0.1.2.2.2.2.2.2.2.2)))))))), x0.2), ()))))
        none)
       (both
        (br (true && (leB s0 (List.length s1.1.2.2.2.2.2.2.2.1)))
         (some (.brk (((x0.1.1, ((IntKind.wrap (IntKind.i64) (s1.1.2.1 + s0)), ((IntKind.wrap (IntKind.i64) (s1.1.2.2.1 - s0)), (x0.1.2.2.2.1, (x0.1.2.2.2.2.1, (x0.1.2.2.2.2.2.1, (x0.1.2.2.2.2.2.2.1, ((List.drop (Int.toNat s0) s1.1.2.2.2.2.2.2.2.1), x0.1.2.2.2.2.2.2.2.2)))))))), x0.2), ())))
         none)
        (br (true && (leB s0 (List.length s1.1.2.2.2.2.2.2.2.1)))
         (some (.brk (((x0.1.1, ((IntKind.wrap (IntKind.i64) (s1.1.2.1 + s0)), ((IntKind.wrap (IntKind.i64) (s1.1.2.2.1 - s0)), (x0.1.2.2.2.1, (x0.1.2.2.2.2.1, (x0.1.2.2.2.2.2.1, (x0.1.2.2.2.2.2.2.1, ((List.drop (Int.toNat s0) s1.1.2.2.2.2.2.2.2.1), x0.1.2.2.2.2.2.2.2.2)))))))), x0.2), ())))
         none))))
     (both
      (both
       (br (true && (leB s0 (List.length s1.1.2.2.2.2.2.2.2.1)))
        (some (.brk (((x0.1.1, ((IntKind.wrap (IntKind.i64) (s1.1.2.1 + s0)), ((IntKind.wrap (IntKind.i64) (s1.1.2.2.1 - s0)), (x0.1.2.2.2.1, (x0.1.2.2.2.2.1, (x0.1.2.2.2.2.2.1, (x0.1.2.2.2.2.2.2.1, ((List.drop (Int.toNat s0) s1.1.2.2.2.2.2.2.2.1), x0.1.2.2.2.2.2.2.2.2)))))))), x0.2), ())))
        none)
       (both
        (br (true && (leB s0 (List.length s1.1.2.2.2.2.2.2.2.1)))
         (some (.brk (((x0.1.1, ((IntKind.wrap (IntKind.i64) (s1.1.2.1 + s0)), ((IntKind.wrap (IntKind.i64) (s1.1.2.2.1 - s0)), (x0.1.2.2.2.1, (x0.1.2.2.2.2.1, (x0.1.2.2.2.2.2.1, (x0.1.2.2.2.2.2.2.1, ((List.drop (Int.toNat s0) s1.1.2.2.2.2.2.2.2.1), x0.1.2.2.2.2.2.2.2.2)))))))), x0.2), ())))
         none)
        (br (true && (leB s0 (List.length s1.1.2.2.2.2.2.2.2.1)))
         (some (.brk (((x0.1.1, ((IntKind.wrap (IntKind.i64) (s1.1.2.1 + s0)), ((IntKind.wrap (IntKind.i64) (s1.1.2.2.1 - s0)), (x0.1.2.2.2.1, (x0.1.2.2.2.2.1, (x0.1.2.2.2.2.2.1, (x0.1.2.2.2.2.2.2.1, ((List.drop (Int.toNat s0) s1.1.2.2.2.2.2.2.2.1), x0.1.2.2.2.2.2.2.2.2)))))))), x0.2), ())))
         none)))
      (br (true && (leB s0 (List.length s1.1.2.2.2.2.2.2.2.1)))
       (both
        (both
         (some (.brk (((x0.1.1, ((IntKind.wrap (IntKind.i64) (s1.1.2.1 + s0)), ((IntKind.wrap (IntKind.i64) (s1.1.2.2.1 - s0)), (x0.1.2.2.2.1, (x0.1.2.2.2.2.1, (x0.1.2.2.2.2.2.1, (x0.1.2.2.2.2.2.2.1, ((List.drop (Int.toNat s0) s1.1.2.2.2.2.2.2.2.1), x0.1.2.2.2.2.2.2.2.2)))))))), x0.2), ())))
         (some (.brk (((x0.1.1, ((IntKind.wrap (IntKind.i64) (s1.1.2.1 + s0)), ((IntKind.wrap (IntKind.i64) (s1.1.2.2.1 - s0)), (x0.1.2.2.2.1, (x0.1.2.2.2.2.1, (x0.1.2.2.2.2.2.1, (x0.1.2.2.2.2.2.2.1, ((List.drop (Int.toNat s0) s1.1.2.2.2.2.2.2.2.1), x0.1.2.2.2.2.2.2.2.2)))))))), x0.2), ()))))
        (some (.brk (((x0.1.1, ((IntKind.wrap (IntKind.i64) (s1.1.2.1 + s0)), ((IntKind.wrap (IntKind.i64) (s1.1.2.2.1 - s0)), (x0.1.2.2.2.1, (x0.1.2.2.2.2.1, (x0.1.2.2.2.2.2.1, (x0.1.2.2.2.2.2.2.1, ((List.drop (Int.toNat s0) s1.1.2.2.2.2.2.2.2.1), x0.1.2.2.2.2.2.2.2.2)))))))), x0.2), ()))))
       none))))) by kernel_rfl).trans (by simp only [both_self])
theorem L_runsrunparts_2004_step (k m : Nat) (s0 : Unit) (s1 : Unit) (s2 : TRun) (s3 : TRun) (x0 : TRun) (x1 : TRun) : L_runsrunparts_2004 k s0 s1 s2 s3 (m + 1) (x0, x1, ()) =
  (some (.brk (s2, (s3, ())))) :=
 (show L_runsrunparts_2004 k s0 s1 s2 s3 (m + 1) (x0, x1, ()) =
  (both
   (some (.brk (s2, (s3, ()))))
   (some (.brk (s2, (s3, ()))))) by kernel_rfl).trans (by simp only [both_self])
theorem F_runsrunparts_step (k : Nat) (a0 : TRun) (a1 : Int) : F_runsrunparts (k + 1) a0 a1 =
  (bdL (L_runsrunparts_2002 k a1 a0 () (1 : Nat) (a0, ()))
     (fun (b : (TRun) × (Unit)) => (bdL (L_runsrunparts_2003 k a1 a0 () (1 : Nat) (a0, ()))
      (fun (b1 : (TRun) × (Unit)) => (bdL (L_runsrunparts_2004 k () () b.1 b1.1 (1 : Nat) (zRun, (zRun, ())))
       (fun (b2 : (TRun) × ((TRun) × (Unit))) => (some ((b2.1, (b2.2.1, ())), ())))
       (fun (j : Nat) => (fun (b2 : (TRun) × ((TRun) × (Unit))) => none))
       (fun (q : (TRun) × ((TRun) × (Unit))) => (fun (b2 : (TRun) × ((TRun) × (Unit))) => (some (q, ()))))))
      (fun (j : Nat) => (fun (b1 : (TRun) × (Unit)) => none))
      (fun (q : (TRun) × ((TRun) × (Unit))) => (fun (b1 : (TRun) × (Unit)) => (some (q, ()))))))
     (fun (j : Nat) => (fun (b : (TRun) × (Unit)) => none))
     (fun (q : (TRun) × ((TRun) × (Unit))) => (fun (b : (TRun) × (Unit)) => (some (q, ()))))) :=
 (show F_runsrunparts (k + 1) a0 a1 =
  (both
   (both
    (bdL (L_runsrunparts_2002 k a1 a0 () (1 : Nat) (a0, ()))
     (fun (b : (TRun) × (Unit)) => (bdL (L_runsrunparts_2003 k a1 a0 () (1 : Nat) (a0, ()))
      (fun (b1 : (TRun) × (Unit)) => (bdL (L_runsrunparts_2004 k () () b.1 b1.1 (1 : Nat) (zRun, (zRun, ())))
       (fun (b2 : (TRun) × ((TRun) × (Unit))) => (some ((b2.1, (b2.2.1, ())), ())))
       (fun (j : Nat) => (fun (b2 : (TRun) × ((TRun) × (Unit))) => none))
       (fun (q : (TRun) × ((TRun) × (Unit))) => (fun (b2 : (TRun) × ((TRun) × (Unit))) => (some (q, ()))))))
      (fun (j : Nat) => (fun (b1 : (TRun) × (Unit)) => none))
      (fun (q : (TRun) × ((TRun) × (Unit))) => (fun (b1 : (TRun) × (Unit)) => (some (q, ()))))))
     (fun (j : Nat) => (fun (b : (TRun) × (Unit)) => none))
     (fun (q : (TRun) × ((TRun) × (Unit))) => (fun (b : (TRun) × (Unit)) => (some (q, ())))))
    (bdL (L_runsrunparts_2002 k a1 a0 () (1 : Nat) (a0, ()))
     (fun (b : (TRun) × (Unit)) => (bdL (L_runsrunparts_2003 k a1 a0 () (1 : Nat) (a0, ()))
      (fun (b1 : (TRun) × (Unit)) => (bdL (L_runsrunparts_2004 k () () b.1 b1.1 (1 : Nat) (zRun, (zRun, ())))
       (fun (b2 : (TRun) × ((TRun) × (Unit))) => (some ((b2.1, (b2.2.1, ())), ())))
       (fun (j : Nat) => (fun (b2 : (TRun) × ((TRun) × (Unit))) => none))
       (fun (q : (TRun) × ((TRun) × (Unit))) => (fun (b2 : (TRun) × ((TRun) × (Unit))) => (some (q, ()))))))
      (fun (j : Nat) => (fun (b1 : (TRun) × (Unit)) => none))
      (fun (q : (TRun) × ((TRun) × (Unit))) => (fun (b1 : (TRun) × (Unit)) => (some (q, ()))))))
     (fun (j : Nat) => (fun (b : (TRun) × (Unit)) => none))
     (fun (q : (TRun) × ((TRun) × (Unit))) => (fun (b : (TRun) × (Unit)) => (some (q, ()))))))
   (both
    (both
     (bdL (L_runsrunparts_2002 k a1 a0 () (1 : Nat) (a0, ()))
      (fun (b : (TRun) × (Unit)) => (bdL (L_runsrunparts_2003 k a1 a0 () (1 : Nat) (a0, ()))
       (fun (b1 : (TRun) × (Unit)) => (bdL (L_runsrunparts_2004 k () () b.1 b1.1 (1 : Nat) (zRun, (zRun, ())))
        (fun (b2 : (TRun) × ((TRun) × (Unit))) => (some ((b2.1, (b2.2.1, ())), ())))
        (fun (j : Nat) => (fun (b2 : (TRun) × ((TRun) × (Unit))) => none))
        (fun (q : (TRun) × ((TRun) × (Unit))) => (fun (b2 : (TRun) × ((TRun) × (Unit))) => (some (q, ()))))))
       (fun (j : Nat) => (fun (b1 : (TRun) × (Unit)) => none))
       (fun (q : (TRun) × ((TRun) × (Unit))) => (fun (b1 : (TRun) × (Unit)) => (some (q, ()))))))
      (fun (j : Nat) => (fun (b : (TRun) × (Unit)) => none))
      (fun (q : (TRun) × ((TRun) × (Unit))) => (fun (b : (TRun) × (Unit)) => (some (q, ())))))
     (both
      (bdL (L_runsrunparts_2002 k a1 a0 () (1 : Nat) (a0, ()))
       (fun (b : (TRun) × (Unit)) => (bdL (L_runsrunparts_2003 k a1 a0 () (1 : Nat) (a0, ()))
        (fun (b1 : (TRun) × (Unit)) => (bdL (L_runsrunparts_2004 k () () b.1 b1.1 (1 : Nat) (zRun, (zRun, ())))
         (fun (b2 : (TRun) × ((TRun) × (Unit))) => (some ((b2.1, (b2.2.1, ())), ())))
         (fun (j : Nat) => (fun (b2 : (TRun) × ((TRun) × (Unit))) => none))
         (fun (q : (TRun) × ((TRun) × (Unit))) => (fun (b2 : (TRun) × ((TRun) × (Unit))) => (some (q, ()))))))
        (fun (j : Nat) => (fun (b1 : (TRun) × (Unit)) => none))
        (fun (q : (TRun) × ((TRun) × (Unit))) => (fun (b1 : (TRun) × (Unit)) => (some (q, ()))))))
       (fun (j : Nat) => (fun (b : (TRun) × (Unit)) => none))
       (fun (q : (TRun) × ((TRun) × (Unit))) => (fun (b : (TRun) × (Unit)) => (some (q, ())))))
      (bdL (L_runsrunparts_2002 k a1 a0 () (1 : Nat) (a0, ()))
       (fun (b : (TRun) × (Unit)) => (bdL (L_runsrunparts_2003 k a1 a0 () (1 : Nat) (a0, ()))
        (fun (b1 : (TRun) × (Unit)) => (bdL (L_runsrunparts_2004 k () () b.1 b1.1 (1 : Nat) (zRun, (zRun, ())))
         (fun (b2 : (TRun) × ((TRun) × (Unit))) => (some ((b2.1, (b2.2.1, ())), ())))
         (fun (j : Nat) => (fun (b2 : (TRun) × ((TRun) × (Unit))) => none))
         (fun (q : (TRun) × ((TRun) × (Unit))) => (fun (b2 : (TRun) × ((TRun) × (Unit))) => (some (q, ()))))))
        (fun (j : Nat) => (fun (b1 : (TRun) × (Unit)) => none))
        (fun (q : (TRun) × ((TRun) × (Unit))) => (fun (b1 : (TRun) × (Unit)) => (some (q, ()))))))
       (fun (j : Nat) => (fun (b : (TRun) × (Unit)) => none))
       (fun (q : (TRun) × ((TRun) × (Unit))) => (fun (b : (TRun) × (Unit)) => (some (q, ())))))))
    (both
     (bdL (L_runsrunparts_2002 k a1 a0 () (1 : Nat) (a0, ()))
      (fun (b : (TRun) × (Unit)) => (bdL (L_runsrunparts_2003 k a1 a0 () (1 : Nat) (a0, ()))
       (fun (b1 : (TRun) × (Unit)) => (bdL (L_runsrunparts_2004 k () () b.1 b1.1 (1 : Nat) (zRun, (zRun, ())))
        (fun (b2 : (TRun) × ((TRun) × (Unit))) => (some ((b2.1, (b2.2.1, ())), ())))
        (fun (j : Nat) => (fun (b2 : (TRun) × ((TRun) × (Unit))) => none))
        (fun (q : (TRun) × ((TRun) × (Unit))) => (fun (b2 : (TRun) × ((TRun) × (Unit))) => (some (q, ()))))))
       (fun (j : Nat) => (fun (b1 : (TRun) × (Unit)) => none))
       (fun (q : (TRun) × ((TRun) × (Unit))) => (fun (b1 : (TRun) × (Unit)) => (some (q, ()))))))
      (fun (j : Nat) => (fun (b : (TRun) × (Unit)) => none))
      (fun (q : (TRun) × ((TRun) × (Unit))) => (fun (b : (TRun) × (Unit)) => (some (q, ())))))
     (both
      (bdL (L_runsrunparts_2002 k a1 a0 () (1 : Nat) (a0, ()))
       (fun (b : (TRun) × (Unit)) => (bdL (L_runsrunparts_2003 k a1 a0 () (1 : Nat) (a0, ()))
        (fun (b1 : (TRun) × (Unit)) => (bdL (L_runsrunparts_2004 k () () b.1 b1.1 (1 : Nat) (zRun, (zRun, ())))
         (fun (b2 : (TRun) × ((TRun) × (Unit))) => (some ((b2.1, (b2.2.1, ())), ())))
         (fun (j : Nat) => (fun (b2 : (TRun) × ((TRun) × (Unit))) => none))
         (fun (q : (TRun) × ((TRun) × (Unit))) => (fun (b2 : (TRun) × ((TRun) × (Unit))) => (some (q, ()))))))
        (fun (j : Nat) => (fun (b1 : (TRun) × (Unit)) => none))
        (fun (q : (TRun) × ((TRun) × (Unit))) => (fun (b1 : (TRun) × (Unit)) => (some (q, ()))))))
       (fun (j : Nat) => (fun (b : (TRun) × (Unit)) => none))
       (fun (q : (TRun) × ((TRun) × (Unit))) => (fun (b : (TRun) × (Unit)) => (some (q, ())))))
      (bdL (L_runsrunparts_2002 k a1 a0 () (1 : Nat) (a0, ()))
       (fun (b : (TRun) × (Unit)) => (bdL (L_runsrunparts_2003 k a1 a0 () (1 : Nat) (a0, ()))
        (fun (b1 : (TRun) × (Unit)) => (bdL (L_runsrunparts_2004 k () () b.1 b1.1 (1 : Nat) (zRun, (zRun, ())))
         (fun (b2 : (TRun) × ((TRun) × (Unit))) => (some ((b2.1, (b2.2.1, ())), ())))
         (fun (j : Nat) => (fun (b2 : (TRun) × ((TRun) × (Unit))) => none))
         (fun (q : (TRun) × ((TRun) × (Unit))) => (fun (b2 : (TRun) × ((TRun) × (Unit))) => (some (q, ()))))))
        (fun (j : Nat) => (fun (b1 : (TRun) × (Unit)) => none))
        (fun (q : (TRun) × ((TRun) × (Unit))) => (fun (b1 : (TRun) × (Unit)) => (some (q, ()))))))
       (fun (j : Nat) => (fun (b : (TRun) × (Unit)) => none))
       (fun (q : (TRun) × ((TRun) × (Unit))) => (fun (b : (TRun) × (Unit)) => (some (q, ()))))))))) by kernel_rfl).trans (by simp only [both_self])
noncomputable def L_ref10RowCut_0 (k : Nat) (s0 : Unit) (s1 : TCut) : Nat → (Int) × ((Int) × (((List (TItem)) × (Unit)) × (Unit))) → Option (LO ((Int) × (Unit)) ((Int) × ((Int) × (((List (TItem)) × (Unit)) × (Unit)))) (((List (TItem)) × (Unit)) × (Unit))) :=
  loopF true 0 58 15000000 14 cut15000000_14_0 (s0, s1, ()) (fun σ K => bodyAt E0 (fnE E0 k) (inl5 E0 (fnE E0 k) k) 14 (rvOf 14) k (codeOf 14 0) _ σ K)
theorem L_ref10RowCut_0_step (k m : Nat) (s0 : Unit) (s1 : TCut) (x0 : Int) (x1 : Int) (x2 : (List (TItem)) × (Unit)) : L_ref10RowCut_0 k s0 s1 (m + 1) (x0, x1, x2, ()) =
  (br (decide (x1 < (((List.length x2.1) : Nat) : Int)))
   (br (inB x1 (List.length x2.1))
    (br (cond (cond (cond (denEq (.pair (.int .i64) (.pair (.int .i64) .unit)) (List.getD x2.1 (Int.toNat x1) zItem).1 s1.1) (decide ((List.getD x2.1 (Int.toNat x1) zItem).2.1 ≥ s1.2.1)) false) (decide ((List.getD x2.1 (Int.toNat x1) zItem).2.1 < s1.2.2.1)) false) (!(List.getD x2.1 (Int.toNat x1) zItem).2.2.2.2.2.1) false)
     (br (inB x1 (List.length x2.1))
      (L_ref10RowCut_0 k s0 s1 m ((IntKind.wrap (IntKind.i64) (x0 + (1 : Int))), ((IntKind.wrap (IntKind.i64) (x1 + (1 : Int))), (((List.set x2.1 (Int.toNat x1) ((List.getD x2.1 (Int.toNat x1) zItem).1, ((List.getD x2.1 (Int.toNat x1) zItem).2.1, ((List.getD x2.1 (Int.toNat x1) zItem).2.2.1, ((List.getD x2.1 (Int.toNat x1) zItem).2.2.2.1, ((List.getD x2.1 (Int.toNat x1) zItem).2.2.2.2.1, (true, (List.getD x2.1 (Int.toNat x1) zItem).2.2.2.2.2.2))))))), x2.2), ()))))
      none)
     (L_ref10RowCut_0 k s0 s1 m (x0, ((IntKind.wrap (IntKind.i64) (x1 + (1 : Int))), (x2, ())))))
    none)
   (some (.brk (x0, (x1, (x2, ())))))) := by kernel_rfl
theorem F_ref10RowCut_step (k : Nat) (a0 : (List (TItem)) × (Unit)) (a1 : TCut) : F_ref10RowCut (k + 1) a0 a1 =
  (bdL (L_ref10RowCut_0 k () a1 k ((0 : Int), ((0 : Int), (a0, ()))))
   (fun (b : (Int) × ((Int) × (((List (TItem)) × (Unit)) × (Unit)))) => (some ((b.1, ()), (b.2.2.1, ()))))
   (fun (j : Nat) => (fun (b : (Int) × ((Int) × (((List (TItem)) × (Unit)) × (Unit)))) => none))
   (fun (q : (Int) × (Unit)) => (fun (b : ((List (TItem)) × (Unit)) × (Unit)) => (some (q, (b.1, ())))))) := by kernel_rfl
noncomputable def L_ref10RowRuns_0 (k : Nat) (s0 : (List (TItem)) × (Unit)) : Nat → (List (TItem)) × ((Int) × (Unit)) → Option (LO ((List (TItem)) × (Unit)) ((List (TItem)) × ((Int) × (Unit))) (Unit)) :=
  loopF true 0 92 21000000 20 cut21000000_20_0 (s0, ()) (fun σ K => bodyAt E0 (fnE E0 k) (inl5 E0 (fnE E0 k) k) 20 (rvOf 20) k (codeOf 20 0) _ σ K)
noncomputable def L_ref10RowRuns_2009 (k : Nat) (s0 : Unit) : Nat → (List (TItem)) × (Unit) → Option (LO ((List (TItem)) × (Unit)) ((List (TItem)) × (Unit)) (Unit)) :=
  loopF false 2009 92 21000000 20 cut21000000_20_2009 (s0, ()) (fun σ K => bodyAt E0 (fnE E0 k) (inl5 E0 (fnE E0 k) k) 20 (rvOf 20) k (codeOf 20 2009) _ σ K)
noncomputable def L_ref10RowRuns_2010 (k : Nat) (s0 : Unit) (s1 : TItem) : Nat → (List (TItem)) × (Unit) → Option (LO ((List (TItem)) × (Unit)) ((List (TItem)) × (Unit)) (Unit)) :=
  loopF false 2010 92 21000000 20 cut21000000_20_2010 (s0, s1, ()) (fun σ K => bodyAt E0 (fnE E0 k) (inl5 E0 (fnE E0 k) k) 20 (rvOf 20) k (codeOf 20 2010) _ σ K)
theorem L_ref10RowRuns_0_step (k m : Nat) (s0 : (List (TItem)) × (Unit)) (x0 : List (TItem)) (x1 : Int) : L_ref10RowRuns_0 k s0 (m + 1) (x0, x1, ()) =
  (br (decide (x1 < (((List.length s0.1) : Nat) : Int)))
   (br (inB x1 (List.length s0.1))
    (br (decide ((((List.length x0) : Nat) : Int) > (0 : Int)))
     (br (inB (IntKind.wrap (IntKind.i64) ((((List.length x0) : Nat) : Int) - (1 : Int))) (List.length x0))
      (br (cond (cond (cond (cond (denEq (.pair (.int .i64) (.pair (.int .i64) .unit)) (List.getD x0 (Int.toNat (IntKind.wrap (IntKind.i64) ((((List.length x0) : Nat) : Int) - (1 : Int)))) zItem).1 (List.getD s0.1 (Int.toNat x1) zItem).1) ((IntKind.wrap (IntKind.i64) ((List.getD x0 (Int.toNat (IntKind.wrap (IntKind.i64) ((((List.length x0) : Nat) : Int) - (1 : Int)))) zItem).2.1 + (List.getD x0 (Int.toNat (IntKind.wrap (IntKind.i64) ((((List.length x0) : Nat) : Int) - (1 : Int)))) zItem).2.2.1)) == (List.getD s0.1 (Int.toNat x1) zItem).2.1) false) ((List.getD x0 (Int.toNat (IntKind.wrap (IntKind.i64) ((((List.length x0) : Nat) : Int) - (1 : Int)))) zItem).2.2.2.2.2.1 == (List.getD s0.1 (Int.toNat x1) zItem).2.2.2.2.2.1) false) (!(List.getD x0 (Int.toNat (IntKind.wrap (IntKind.i64) ((((List.length x0) : Nat) : Int) - (1 : Int)))) zItem).2.2.2.2.2.2.1) false) (!(List.getD s0.1 (Int.toNat x1) zItem).2.2.2.2.2.2.1) false)
       (bdL (L_ref10RowRuns_2009 k () (1 : Nat) (x0, ()))
        (fun (b : (List (TItem)) × (Unit)) => (bdL (L_ref10RowRuns_2010 k () (List.getD s0.1 (Int.toNat x1) zItem) (1 : Nat) (b.1, ()))
         (fun (b1 : (List (TItem)) × (Unit)) => (L_ref10RowRuns_0 k s0 m (b1.1, ((IntKind.wrap (IntKind.i64) (x1 + (1 : Int))), ()))))
         (fun (j : Nat) => (fun (b1 : (List (TItem)) × (Unit)) => (br (Nat.beq j (1 : Nat))
          (L_ref10RowRuns_0 k s0 m (b1.1, ((IntKind.wrap (IntKind.i64) (x1 + (1 : Int))), ())))
          (br (Nat.beq j (0 : Nat))
           (some (.brk (b1.1, (x1, ()))))
           (some (.ext j (b1.1, (x1, ()))))))))
         (fun (q : (List (TItem)) × (Unit)) => (fun (b1 : Unit) => (some (.ret q ()))))))
        (fun (j : Nat) => (fun (b : (List (TItem)) × (Unit)) => (br (Nat.beq j (1 : Nat))
         (L_ref10RowRuns_0 k s0 m (b.1, ((IntKind.wrap (IntKind.i64) (x1 + (1 : Int))), ())))
         (br (Nat.beq j (0 : Nat))
          (some (.brk (b.1, (x1, ()))))
          (some (.ext j (b.1, (x1, ()))))))))
        (fun (q : (List (TItem)) × (Unit)) => (fun (b : Unit) => (some (.ret q ())))))
       (br (decide ((((List.length x0) + (List.length ((List.getD s0.1 (Int.toNat x1) zItem) :: ([] : List (TItem))))) * (104 : Nat)) ≤ (140737488355328 : Nat)))
        (L_ref10RowRuns_0 k s0 m ((x0 ++ ((List.getD s0.1 (Int.toNat x1) zItem) :: ([] : List (TItem)))), ((IntKind.wrap (IntKind.i64) (x1 + (1 : Int))), ())))
        none))
      none)
     (br (decide ((((List.length x0) + (List.length ((List.getD s0.1 (Int.toNat x1) zItem) :: ([] : List (TItem))))) * (104 : Nat)) ≤ (140737488355328 : Nat)))
      (L_ref10RowRuns_0 k s0 m ((x0 ++ ((List.getD s0.1 (Int.toNat x1) zItem) :: ([] : List (TItem)))), ((IntKind.wrap (IntKind.i64) (x1 + (1 : Int))), ())))
      none))
    none)
   (some (.brk (x0, (x1, ()))))) := by kernel_rfl
theorem L_ref10RowRuns_2009_step (k m : Nat) (s0 : Unit) (x0 : List (TItem)) : L_ref10RowRuns_2009 k s0 (m + 1) (x0, ()) =
  (br (inB (IntKind.wrap (IntKind.i64) ((((List.length x0) : Nat) : Int) - (1 : Int))) (List.length x0))
   (br (inB (IntKind.wrap (IntKind.i64) ((((List.length x0) : Nat) : Int) - (1 : Int))) (List.length x0))
    (some (.brk ((List.set x0 (Int.toNat (IntKind.wrap (IntKind.i64) ((((List.length x0) : Nat) : Int) - (1 : Int)))) ((List.getD x0 (Int.toNat (IntKind.wrap (IntKind.i64) ((((List.length x0) : Nat) : Int) - (1 : Int)))) zItem).1, ((List.getD x0 (Int.toNat (IntKind.wrap (IntKind.i64) ((((List.length x0) : Nat) : Int) - (1 : Int)))) zItem).2.1, ((IntKind.wrap (IntKind.i64) ((List.getD x0 (Int.toNat (IntKind.wrap (IntKind.i64) ((((List.length x0) : Nat) : Int) - (1 : Int)))) zItem).2.2.1 + (1 : Int))), (List.getD x0 (Int.toNat (IntKind.wrap (IntKind.i64) ((((List.length x0) : Nat) : Int) - (1 : Int)))) zItem).2.2.2)))), ())))
    none)
   none) := by kernel_rfl
theorem L_ref10RowRuns_2010_step (k m : Nat) (s0 : Unit) (s1 : TItem) (x0 : List (TItem)) : L_ref10RowRuns_2010 k s0 s1 (m + 1) (x0, ()) =
  (br (inB (IntKind.wrap (IntKind.i64) ((((List.length x0) : Nat) : Int) - (1 : Int))) (List.length x0))
   (br (decide (((List.length (List.getD x0 (Int.toNat (IntKind.wrap (IntKind.i64) ((((List.length x0) : Nat) : Int) - (1 : Int)))) zItem).2.2.2.2.2.2.2.1) + (List.length s1.2.2.2.2.2.2.2.1)) ≤ (9223372036854775807 : Nat)))
    (br (inB (IntKind.wrap (IntKind.i64) ((((List.length x0) : Nat) : Int) - (1 : Int))) (List.length x0))
     (some (.brk ((List.set x0 (Int.toNat (IntKind.wrap (IntKind.i64) ((((List.length x0) : Nat) : Int) - (1 : Int)))) ((List.getD x0 (Int.toNat (IntKind.wrap (IntKind.i64) ((((List.length x0) : Nat) : Int) - (1 : Int)))) zItem).1, ((List.getD x0 (Int.toNat (IntKind.wrap (IntKind.i64) ((((List.length x0) : Nat) : Int) - (1 : Int)))) zItem).2.1, ((List.getD x0 (Int.toNat (IntKind.wrap (IntKind.i64) ((((List.length x0) : Nat) : Int) - (1 : Int)))) zItem).2.2.1, ((List.getD x0 (Int.toNat (IntKind.wrap (IntKind.i64) ((((List.length x0) : Nat) : Int) - (1 : Int)))) zItem).2.2.2.1, ((List.getD x0 (Int.toNat (IntKind.wrap (IntKind.i64) ((((List.length x0) : Nat) : Int) - (1 : Int)))) zItem).2.2.2.2.1, ((List.getD x0 (Int.toNat (IntKind.wrap (IntKind.i64) ((((List.length x0) : Nat) : Int) - (1 : Int)))) zItem).2.2.2.2.2.1, ((List.getD x0 (Int.toNat (IntKind.wrap (IntKind.i64) ((((List.length x0) : Nat) : Int) - (1 : Int)))) zItem).2.2.2.2.2.2.1, (((List.getD x0 (Int.toNat (IntKind.wrap (IntKind.i64) ((((List.length x0) : Nat) : Int) - (1 : Int)))) zItem).2.2.2.2.2.2.2.1 ++ s1.2.2.2.2.2.2.2.1), (List.getD x0 (Int.toNat (IntKind.wrap (IntKind.i64) ((((List.length x0) : Nat) : Int) - (1 : Int)))) zItem).2.2.2.2.2.2.2.2))))))))), ())))
     none)
    none)
   none) := by kernel_rfl
theorem F_ref10RowRuns_step (k : Nat) (a0 : (List (TItem)) × (Unit)) : F_ref10RowRuns (k + 1) a0 =
  (bdL (L_ref10RowRuns_0 k a0 k (([] : List (TItem)), ((0 : Int), ())))
   (fun (b : (List (TItem)) × ((Int) × (Unit))) => (some ((b.1, ()), ())))
   (fun (j : Nat) => (fun (b : (List (TItem)) × ((Int) × (Unit))) => none))
   (fun (q : (List (TItem)) × (Unit)) => (fun (b : Unit) => (some (q, ()))))) := by kernel_rfl
noncomputable def L_runsRowmend_0 (k : Nat) (s0 : List (TRun)) (s1 : Int) : Nat → (List (TRun)) × ((Int) × (Unit)) → Option (LO (Unit) ((List (TRun)) × ((Int) × (Unit))) (Unit)) :=
  loopF true 0 65 30000000 29 cut30000000_29_0 (s0, s1, ()) (fun σ K => bodyAt E0 (fnE E0 k) (inl5 E0 (fnE E0 k) k) 29 (rvOf 29) k (codeOf 29 0) _ σ K)
noncomputable def L_runsRowmend_1006 (k : Nat) (s0 : Unit) (s1 : TRun) (s2 : Int) (s3 : Bool) : Nat → (List (TRun)) × (Unit) → Option (LO (Unit) ((List (TRun)) × (Unit)) (Unit)) :=
  loopF false 1006 65 30000000 29 cut30000000_29_1006 (s0, s1, s2, s3, ()) (fun σ K => bodyAt E0 (fnE E0 k) (inl5 E0 (fnE E0 k) k) 29 (rvOf 29) k (codeOf 29 1006) _ σ K)
theorem L_runsRowmend_0_step (k m : Nat) (s0 : List (TRun)) (s1 : Int) (x0 : List (TRun)) (x1 : Int) : L_runsRowmend_0 k s0 s1 (m + 1) (x0, x1, ()) =
  (br (decide (x1 < s1))
   (br (inB x1 (List.length s0))
    (br (boolEq (decide ((((List.length x0) : Nat) : Int) > (0 : Int))) true)
     (br (inB (IntKind.wrap (IntKind.i64) ((((List.length x0) : Nat) : Int) - (1 : Int))) (List.length x0))
      (bd (F_runsrunjoins k (List.getD x0 (Int.toNat (IntKind.wrap (IntKind.i64) ((((List.length x0) : Nat) : Int) - (1 : Int)))) zRun) (List.getD s0 (Int.toNat x1) zRun)) (fun (r : ((Bool) × (Unit)) × (Unit)) => (bdL (L_runsRowmend_1006 k () (List.getD s0 (Int.toNat x1) zRun) (((List.length x0) : Nat) : Int) r.1.1 (1 : Nat) (x0, ()))
        (fun (b : (List (TRun)) × (Unit)) => (br (decide ((((List.length b.1) + (List.length ((List.getD s0 (Int.toNat x1) zRun) :: ([] : List (TRun))))) * (104 : Nat)) ≤ (140737488355328 : Nat)))
         (L_runsRowmend_0 k s0 s1 m ((b.1 ++ ((List.getD s0 (Int.toNat x1) zRun) :: ([] : List (TRun)))), ((IntKind.wrap (IntKind.i64) (x1 + (1 : Int))), ())))
         none))
        (fun (j : Nat) => (fun (b : (List (TRun)) × (Unit)) => (br (Nat.beq j (1 : Nat))
         (L_runsRowmend_0 k s0 s1 m (b.1, ((IntKind.wrap (IntKind.i64) (x1 + (1 : Int))), ())))
         (br (Nat.beq j (0 : Nat))
          (some (.brk (b.1, (x1, ()))))
          (some (.ext j (b.1, (x1, ()))))))))
        (fun (q : Unit) => (fun (b : Unit) => (some (.ret q ())))))))
      none)
     (bdL (L_runsRowmend_1006 k () (List.getD s0 (Int.toNat x1) zRun) (((List.length x0) : Nat) : Int) false (1 : Nat) (x0, ()))
       (fun (b : (List (TRun)) × (Unit)) => (br (decide ((((List.length b.1) + (List.length ((List.getD s0 (Int.toNat x1) zRun) :: ([] : List (TRun))))) * (104 : Nat)) ≤ (140737488355328 : Nat)))
        (L_runsRowmend_0 k s0 s1 m ((b.1 ++ ((List.getD s0 (Int.toNat x1) zRun) :: ([] : List (TRun)))), ((IntKind.wrap (IntKind.i64) (x1 + (1 : Int))), ())))
        none))
       (fun (j : Nat) => (fun (b : (List (TRun)) × (Unit)) => (br (Nat.beq j (1 : Nat))
        (L_runsRowmend_0 k s0 s1 m (b.1, ((IntKind.wrap (IntKind.i64) (x1 + (1 : Int))), ())))
        (br (Nat.beq j (0 : Nat))
         (some (.brk (b.1, (x1, ()))))
         (some (.ext j (b.1, (x1, ()))))))))
       (fun (q : Unit) => (fun (b : Unit) => (some (.ret q ()))))))
    none)
   (some (.brk (x0, (x1, ()))))) :=
 (show L_runsRowmend_0 k s0 s1 (m + 1) (x0, x1, ()) =
  (br (decide (x1 < s1))
   (br (inB x1 (List.length s0))
    (br (boolEq (decide ((((List.length x0) : Nat) : Int) > (0 : Int))) true)
     (br (inB (IntKind.wrap (IntKind.i64) ((((List.length x0) : Nat) : Int) - (1 : Int))) (List.length x0))
      (bd (F_runsrunjoins k (List.getD x0 (Int.toNat (IntKind.wrap (IntKind.i64) ((((List.length x0) : Nat) : Int) - (1 : Int)))) zRun) (List.getD s0 (Int.toNat x1) zRun)) (fun (r : ((Bool) × (Unit)) × (Unit)) => (bdL (L_runsRowmend_1006 k () (List.getD s0 (Int.toNat x1) zRun) (((List.length x0) : Nat) : Int) r.1.1 (1 : Nat) (x0, ()))
        (fun (b : (List (TRun)) × (Unit)) => (br (decide ((((List.length b.1) + (List.length ((List.getD s0 (Int.toNat x1) zRun) :: ([] : List (TRun))))) * (104 : Nat)) ≤ (140737488355328 : Nat)))
         (L_runsRowmend_0 k s0 s1 m ((b.1 ++ ((List.getD s0 (Int.toNat x1) zRun) :: ([] : List (TRun)))), ((IntKind.wrap (IntKind.i64) (x1 + (1 : Int))), ())))
         none))
        (fun (j : Nat) => (fun (b : (List (TRun)) × (Unit)) => (br (Nat.beq j (1 : Nat))
         (L_runsRowmend_0 k s0 s1 m (b.1, ((IntKind.wrap (IntKind.i64) (x1 + (1 : Int))), ())))
         (br (Nat.beq j (0 : Nat))
          (some (.brk (b.1, (x1, ()))))
          (some (.ext j (b.1, (x1, ()))))))))
        (fun (q : Unit) => (fun (b : Unit) => (some (.ret q ())))))))
      none)
     (both
      (bdL (L_runsRowmend_1006 k () (List.getD s0 (Int.toNat x1) zRun) (((List.length x0) : Nat) : Int) false (1 : Nat) (x0, ()))
       (fun (b : (List (TRun)) × (Unit)) => (br (decide ((((List.length b.1) + (List.length ((List.getD s0 (Int.toNat x1) zRun) :: ([] : List (TRun))))) * (104 : Nat)) ≤ (140737488355328 : Nat)))
        (L_runsRowmend_0 k s0 s1 m ((b.1 ++ ((List.getD s0 (Int.toNat x1) zRun) :: ([] : List (TRun)))), ((IntKind.wrap (IntKind.i64) (x1 + (1 : Int))), ())))
        none))
       (fun (j : Nat) => (fun (b : (List (TRun)) × (Unit)) => (br (Nat.beq j (1 : Nat))
        (L_runsRowmend_0 k s0 s1 m (b.1, ((IntKind.wrap (IntKind.i64) (x1 + (1 : Int))), ())))
        (br (Nat.beq j (0 : Nat))
         (some (.brk (b.1, (x1, ()))))
         (some (.ext j (b.1, (x1, ()))))))))
       (fun (q : Unit) => (fun (b : Unit) => (some (.ret q ())))))
      (bdL (L_runsRowmend_1006 k () (List.getD s0 (Int.toNat x1) zRun) (((List.length x0) : Nat) : Int) false (1 : Nat) (x0, ()))
       (fun (b : (List (TRun)) × (Unit)) => (br (decide ((((List.length b.1) + (List.length ((List.getD s0 (Int.toNat x1) zRun) :: ([] : List (TRun))))) * (104 : Nat)) ≤ (140737488355328 : Nat)))
        (L_runsRowmend_0 k s0 s1 m ((b.1 ++ ((List.getD s0 (Int.toNat x1) zRun) :: ([] : List (TRun)))), ((IntKind.wrap (IntKind.i64) (x1 + (1 : Int))), ())))
        none))
       (fun (j : Nat) => (fun (b : (List (TRun)) × (Unit)) => (br (Nat.beq j (1 : Nat))
        (L_runsRowmend_0 k s0 s1 m (b.1, ((IntKind.wrap (IntKind.i64) (x1 + (1 : Int))), ())))
        (br (Nat.beq j (0 : Nat))
         (some (.brk (b.1, (x1, ()))))
         (some (.ext j (b.1, (x1, ()))))))))
       (fun (q : Unit) => (fun (b : Unit) => (some (.ret q ())))))))
    none)
   (some (.brk (x0, (x1, ()))))) by kernel_rfl).trans (by simp only [both_self])
theorem L_runsRowmend_1006_step (k m : Nat) (s0 : Unit) (s1 : TRun) (s2 : Int) (s3 : Bool) (x0 : List (TRun)) : L_runsRowmend_1006 k s0 s1 s2 s3 (m + 1) (x0, ()) =
  (br s3
   (br (inB (IntKind.wrap (IntKind.i64) (s2 - (1 : Int))) (List.length x0))
    (br (inB (IntKind.wrap (IntKind.i64) (s2 - (1 : Int))) (List.length x0))
     (br (inB (IntKind.wrap (IntKind.i64) (s2 - (1 : Int))) (List.length (List.set x0 (Int.toNat (IntKind.wrap (IntKind.i64) (s2 - (1 : Int)))) (((List.getD x0 (Int.toNat (IntKind.wrap (IntKind.i64) (s2 - (1 : Int)))) zRun).1.1, ((List.getD x0 (Int.toNat (IntKind.wrap (IntKind.i64) (s2 - (1 : Int)))) zRun).1.2.1, ((IntKind.wrap (IntKind.i64) ((List.getD x0 (Int.toNat (IntKind.wrap (IntKind.i64) (s2 - (1 : Int)))) zRun).1.2.2.1 + s1.1.2.2.1)), (List.getD x0 (Int.toNat (IntKind.wrap (IntKind.i64) (s2 - (1 : Int)))) zRun).1.2.2.2))), (List.getD x0 (Int.toNat (IntKind.wrap (IntKind.i64) (s2 - (1 : Int)))) zRun).2))))
      (br (decide (((List.length (List.getD (List.set x0 (Int.toNat (IntKind.wrap (IntKind.i64) (s2 - (1 : Int)))) (((List.getD x0 (Int.toNat (IntKind.wrap (IntKind.i64) (s2 - (1 : Int)))) zRun).1.1, ((List.getD x0 (Int.toNat (IntKind.wrap (IntKind.i64) (s2 - (1 : Int)))) zRun).1.2.1, ((IntKind.wrap (IntKind.i64) ((List.getD x0 (Int.toNat (IntKind.wrap (IntKind.i64) (s2 - (1 : Int)))) zRun).1.2.2.1 + s1.1.2.2.1)), (List.getD x0 (Int.toNat (IntKind.wrap (IntKind.i64) (s2 - (1 : Int)))) zRun).1.2.2.2))), (List.getD x0 (Int.toNat (IntKind.wrap (IntKind.i64) (s2 - (1 : Int)))) zRun).2)) (Int.toNat (IntKind.wrap (IntKind.i64) (s2 - (1 : Int)))) zRun).1.2.2.2.2.2.2.2.1) + (List.length s1.1.2.2.2.2.2.2.2.1)) ≤ (9223372036854775807 : Nat)))
       (br (inB (IntKind.wrap (IntKind.i64) (s2 - (1 : Int))) (List.length (List.set x0 (Int.toNat (IntKind.wrap (IntKind.i64) (s2 - (1 : Int)))) (((List.getD x0 (Int.toNat (IntKind.wrap (IntKind.i64) (s2 - (1 : Int)))) zRun).1.1, ((List.getD x0 (Int.toNat (IntKind.wrap (IntKind.i64) (s2 - (1 : Int)))) zRun).1.2.1, ((IntKind.wrap (IntKind.i64) ((List.getD x0 (Int.toNat (IntKind.wrap (IntKind.i64) (s2 - (1 : Int)))) zRun).1.2.2.1 + s1.1.2.2.1)), (List.getD x0 (Int.toNat (IntKind.wrap (IntKind.i64) (s2 - (1 : Int)))) zRun).1.2.2.2))), (List.getD x0 (Int.toNat (IntKind.wrap (IntKind.i64) (s2 - (1 : Int)))) zRun).2))))
        (some (.ext 1 ((List.set (List.set x0 (Int.toNat (IntKind.wrap (IntKind.i64) (s2 - (1 : Int)))) (((List.getD x0 (Int.toNat (IntKind.wrap (IntKind.i64) (s2 - (1 : Int)))) zRun).1.1, ((List.getD x0 (Int.toNat (IntKind.wrap (IntKind.i64) (s2 - (1 : Int)))) zRun).1.2.1, ((IntKind.wrap (IntKind.i64) ((List.getD x0 (Int.toNat (IntKind.wrap (IntKind.i64) (s2 - (1 : Int)))) zRun).1.2.2.1 + s1.1.2.2.1)), (List.getD x0 (Int.toNat (IntKind.wrap (IntKind.i64) (s2 - (1 : Int)))) zRun).1.2.2.2))), (List.getD x0 (Int.toNat (IntKind.wrap (IntKind.i64) (s2 - (1 : Int)))) zRun).2)) (Int.toNat (IntKind.wrap (IntKind.i64) (s2 - (1 : Int)))) (((List.getD (List.set x0 (Int.toNat (IntKind.wrap (IntKind.i64) (s2 - (1 : Int)))) (((List.getD x0 (Int.toNat (IntKind.wrap (IntKind.i64) (s2 - (1 : Int)))) zRun).1.1, ((List.getD x0 (Int.toNat (IntKind.wrap (IntKind.i64) (s2 - (1 : Int)))) zRun).1.2.1, ((IntKind.wrap (IntKind.i64) ((List.getD x0 (Int.toNat (IntKind.wrap (IntKind.i64) (s2 - (1 : Int)))) zRun).1.2.2.1 + s1.1.2.2.1)), (List.getD x0 (Int.toNat (IntKind.wrap (IntKind.i64) (s2 - (1 : Int)))) zRun).1.2.2.2))), (List.getD x0 (Int.toNat (IntKind.wrap (IntKind.i64) (s2 - (1 : Int)))) zRun).2)) (Int.toNat (IntKind.wrap (IntKind.i64) (s2 - (1 : Int)))) zRun).1.1, ((List.getD (List.set x0 (Int.toNat (IntKind.wrap (IntKind.i64) (s2 - (1 : Int)))) (((List.getD x0 (Int.toNat (IntKind.wrap (IntKind.i64) (s2 - (1 : Int)))) zRun).1.1, ((List.getD x0 (Int.toNat (IntKind.wrap (IntKind.i64) (s2 - (1 : Int)))) zRun).1.2.1, ((IntKind.wrap (IntKind.i64) ((List.getD x0 (Int.toNat (IntKind.wrap (IntKind.i64) (s2 - (1 : Int)))) zRun).1.2.2.1 + s1.1.2.2.1)), (List.getD x0 (Int.toNat (IntKind.wrap (IntKind.i64) (s2 - (1 : Int)))) zRun).1.2.2.2))), (List.getD x0 (Int.toNat (IntKind.wrap (IntKind.i64) (s2 - (1 : Int)))) zRun).2)) (Int.toNat (IntKind.wrap (IntKind.i64) (s2 - (1 : Int)))) zRun).1.2.1, ((List.getD (List.set x0 (Int.toNat (IntKind.wrap (IntKind.i64) (s2 - (1 : Int)))) (((List.getD x0 (Int.toNat (IntKind.wrap (IntKind.i64) (s2 - (1 : Int)))) zRun).1.1, ((List.getD x0 (Int.toNat (IntKind.wrap (IntKind.i64) (s2 - (1 : Int)))) zRun).1.2.1, ((IntKind.wrap (IntKind.i64) ((List.getD x0 (Int.toNat (IntKind.wrap (IntKind.i64) (s2 - (1 : Int)))) zRun).1.2.2.1 + s1.1.2.2.1)), (List.getD x0 (Int.toNat (IntKind.wrap (IntKind.i64) (s2 - (1 : Int)))) zRun).1.2.2.2))), (List.getD x0 (Int.toNat (IntKind.wrap (IntKind.i64) (s2 - (1 : Int)))) zRun).2)) (Int.toNat (IntKind.wrap (IntKind.i64) (s2 - (1 : Int)))) zRun).1.2.2.1, ((List.getD (List.set x0 (Int.toNat (IntKind.wrap (IntKind.i64) (s2 - (1 : Int)))) (((List.getD x0 (Int.toNat (IntKind.wrap (IntKind.i64) (s2 - (1 : Int)))) zRun).1.1, ((List.getD x0 (Int.toNat (IntKind.wrap (IntKind.i64) (s2 - (1 : Int)))) zRun).1.2.1, ((IntKind.wrap (IntKind.i64) ((List.getD x0 (Int.toNat (IntKind.wrap (IntKind.i64) (s2 - (1 : Int)))) zRun).1.2.2.1 + s1.1.2.2.1)), (List.getD x0 (Int.toNat (IntKind.wrap (IntKind.i64) (s2 - (1 : Int)))) zRun).1.2.2.2))), (List.getD x0 (Int.toNat (IntKind.wrap (IntKind.i64) (s2 - (1 : Int)))) zRun).2)) (Int.toNat (IntKind.wrap (IntKind.i64) (s2 - (1 : Int)))) zRun).1.2.2.2.1, ((List.getD (List.set x0 (Int.toNat (IntKind.wrap (IntKind.i64) (s2 - (1 : Int)))) (((List.getD x0 (Int.toNat (IntKind.wrap (IntKind.i64) (s2 - (1 : Int)))) zRun).1.1, ((List.getD x0 (Int.toNat (IntKind.wrap (IntKind.i64) (s2 - (1 : Int)))) zRun).1.2.1, ((IntKind.wrap (IntKind.i64) ((List.getD x0 (Int.toNat (IntKind.wrap (IntKind.i64) (s2 - (1 : Int)))) zRun).1.2.2.1 + s1.1.2.2.1)), (List.getD x0 (Int.toNat (IntKind.wrap (IntKind.i64) (s2 - (1 : Int)))) zRun).1.2.2.2))), (List.getD x0 (Int.toNat (IntKind.wrap (IntKind.i64) (s2 - (1 : Int)))) zRun).2)) (Int.toNat (IntKind.wrap (IntKind.i64) (s2 - (1 : Int)))) zRun).1.2.2.2.2.1, ((List.getD (List.set x0 (Int.toNat (IntKind.wrap (IntKind.i64) (s2 - (1 : Int)))) (((List.getD x0 (Int.toNat (IntKind.wrap (IntKind.i64) (s2 - (1 : Int)))) zRun).1.1, ((List.getD x0 (Int.toNat (IntKind.wrap (IntKind.i64) (s2 - (1 : Int)))) zRun).1.2.1, ((IntKind.wrap (IntKind.i64) ((List.getD x0 (Int.toNat (IntKind.wrap (IntKind.i64) (s2 - (1 : Int)))) zRun).1.2.2.1 + s1.1.2.2.1)), (List.getD x0 (Int.toNat (IntKind.wrap (IntKind.i64) (s2 - (1 : Int)))) zRun).1.2.2.2))), (List.getD x0 (Int.toNat (IntKind.wrap (IntKind.i64) (s2 - (1 : Int)))) zRun).2)) (Int.toNat (IntKind.wrap (IntKind.i64) (s2 - (1 : Int)))) zRun).1.2.2.2.2.2.1, ((List.getD (List.set x0 (Int.toNat (IntKind.wrap (IntKind.i64) (s2 - (1 : Int)))) (((List.getD x0 (Int.toNat (IntKind.wrap (IntKind.i64) (s2 - (1 : Int)))) zRun).1.1, ((List.getD x0 (Int.toNat (IntKind.wrap (IntKind.i64) (s2 - (1 : Int)))) zRun).1.2.1, ((IntKind.wrap (IntKind.i64) ((List.getD x0 (Int.toNat (IntKind.wrap (IntKind.i64) (s2 - (1 : Int)))) zRun).1.2.2.1 + s1.1.2.2.1)), (List.getD x0 (Int.toNat (IntKind.wrap (IntKind.i64) (s2 - (1 : Int)))) zRun).1.2.2.2))), (List.getD x0 (Int.toNat (IntKind.wrap (IntKind.i64) (s2 - (1 : Int)))) zRun).2)) (Int.toNat (IntKind.wrap (IntKind.i64) (s2 - (1 : Int)))) zRun).1.2.2.2.2.2.2.1, (((List.getD (List.set x0 (Int.toNat (IntKind.wrap (IntKind.i64) (s2 - (1 : Int)))) (((List.getD x0 (Int.toNat (IntKind.wrap (IntKind.i64) (s2 - (1 : Int)))) zRun).1.1, ((List.getD x0 (Int.toNat (IntKind.wrap (IntKind.i64) (s2 - (1 : Int)))) zRun).1.2.1, ((IntKind.wrap (IntKind.i64) ((List.getD x0 (Int.toNat (IntKind.wrap (IntKind.i64) (s2 - (1 : Int)))) zRun).1.2.2.1 + s1.1.2.2.1)), (List.getD x0 (Int.toNat (IntKind.wrap (IntKind.i64) (s2 - (1 : Int)))) zRun).1.2.2.2))), (List.getD x0 (Int.toNat (IntKind.wrap (IntKind.i64) (s2 - (1 : Int)))) zRun).2)) (Int.toNat (IntKind.wrap (IntKind.i64) (s2 - (1 : Int)))) zRun).1.2.2.2.2.2.2.2.1 ++ s1.1.2.2.2.2.2.2.2.1), (List.getD (List.set x0 (Int.toNat (IntKind.wrap (IntKind.i64) (s2 - (1 : Int)))) (((List.getD x0 (Int.toNat (IntKind.wrap (IntKind.i64) (s2 - (1 : Int)))) zRun).1.1, ((List.getD x0 (Int.toNat (IntKind.wrap (IntKind.i64) (s2 - (1 : Int)))) zRun).1.2.1, ((IntKind.wrap (IntKind.i64) ((List.getD x0 (Int.toNat (IntKind.wrap (IntKind.i64) (s2 - (1 : Int)))) zRun).1.2.2.1 + s1.1.2.2.1)), (List.getD x0 (Int.toNat (IntKind.wrap (IntKind.i64) (s2 - (1 : Int)))) zRun).1.2.2.2))), (List.getD x0 (Int.toNat (IntKind.wrap (IntKind.i64) (s2 - (1 : Int)))) zRun).2)) (Int.toNat (IntKind.wrap (IntKind.i64) (s2 - (1 : Int)))) zRun).1.2.2.2.2.2.2.2.2)))))))), (List.getD (List.set x0 (Int.toNat (IntKind.wrap (IntKind.i64) (s2 - (1 : Int)))) (((List.getD x0 (Int.toNat (IntKind.wrap (IntKind.i64) (s2 - (1 : Int)))) zRun).1.1, ((List.getD x0 (Int.toNat (IntKind.wrap (IntKind.i64) (s2 - (1 : Int)))) zRun).1.2.1, ((IntKind.wrap (IntKind.i64) ((List.getD x0 (Int.toNat (IntKind.wrap (IntKind.i64) (s2 - (1 : Int)))) zRun).1.2.2.1 + s1.1.2.2.1)), (List.getD x0 (Int.toNat (IntKind.wrap (IntKind.i64) (s2 - (1 : Int)))) zRun).1.2.2.2))), (List.getD x0 (Int.toNat (IntKind.wrap (IntKind.i64) (s2 - (1 : Int)))) zRun).2)) (Int.toNat (IntKind.wrap (IntKind.i64) (s2 - (1 : Int)))) zRun).2)), ())))
        none)
       none)
      none)
     none)
    none)
   (some (.brk (x0, ())))) := by kernel_rfl
theorem F_runsRowmend_step (k : Nat) (a0 : (List (TRun)) × (Unit)) : F_runsRowmend (k + 1) a0 =
  (bdL (L_runsRowmend_0 k a0.1 (((List.length a0.1) : Nat) : Int) k (([] : List (TRun)), ((0 : Int), ())))
   (fun (b : (List (TRun)) × ((Int) × (Unit))) => (some ((), ((b.1, a0.2), ()))))
   (fun (j : Nat) => (fun (b : (List (TRun)) × ((Int) × (Unit))) => none))
   (fun (q : Unit) => (fun (b : Unit) => (some (q, (a0, ())))))) := by kernel_rfl
end Go.Proofs.Ythlpjdjipchdkaa.E

namespace Go.Proofs.Ythlpjdjipchdkaa.E
open Go
set_option linter.unusedVariables false
set_option maxRecDepth 100000
noncomputable def F_runsRowoverlaps (k : Nat) (a0 : (List (TRun)) × (Unit)) (a1 : TItem) : Option (((Bool) × (Unit)) × (Unit)) := fnE E0 k 26 (a0, a1, ())
noncomputable def F_runsRowsplit (k : Nat) (a0 : (List (TRun)) × (Unit)) (a1 : Int) : Option (((Int) × (Unit)) × (((List (TRun)) × (Unit)) × (Unit))) := fnE E0 k 27 (a0, a1, ())
noncomputable def F_runsruncut (k : Nat) (a0 : TRun) (a1 : TCut) : Option (((List (TRun)) × ((Int) × (Unit))) × (Unit)) := fnE E0 k 30 (a0, a1, ())
noncomputable def F_ref10RowPut (k : Nat) (a0 : (List (TItem)) × (Unit)) (a1 : Int) (a2 : TItem) : Option (((Int) × (Unit)) × (((List (TItem)) × (Unit)) × (Unit))) := fnE E0 k 13 (a0, a1, a2, ())
noncomputable def L_runsRowoverlaps_10_7_slicesIndexFuncrunsrun_0 (k : Nat) (s0 : List (TRun)) (s1 : Unit) (s2 : Int) : Nat → (Int) × ((Int) × (TRun)) → Option (LO ((Int) × (Unit)) ((Int) × ((Int) × (TRun))) (TRun)) :=
  loopF true 0 19 27011008000000 45 cut27011008000000_45_0 (s0, s1, s2, ()) (fun σ K => bodyAt E0 (fnE E0 k) (inl3 E0 (fnE E0 k) k) 45 (rvOf 45) k (codeOf 45 0) _ σ K)
theorem L_runsRowoverlaps_10_7_slicesIndexFuncrunsrun_0_step (k m : Nat) (s0 : List (TRun)) (s1 : Unit) (s2 : Int) (x0 : Int) (x1 : Int) (x2 : TItem) : L_runsRowoverlaps_10_7_slicesIndexFuncrunsrun_0 k s0 s1 s2 (m + 1) (x0, x1, x2, ()) =
  (br (decide (x1 < s2))
   (br (inB x1 (List.length s0))
    (br (cond (cond (denEq (.pair (.int .i64) (.pair (.int .i64) .unit)) (List.getD s0 (Int.toNat x1) zRun).1.1 x2.1) (decide ((List.getD s0 (Int.toNat x1) zRun).1.2.1 < (IntKind.wrap (IntKind.i64) (x2.2.1 + x2.2.2.1)))) false) (decide (x2.2.1 < (IntKind.wrap (IntKind.i64) ((List.getD s0 (Int.toNat x1) zRun).1.2.1 + (List.getD s0 (Int.toNat x1) zRun).1.2.2.1)))) false)
     (some (.ret (x1, ()) (x2, ())))
     (L_runsRowoverlaps_10_7_slicesIndexFuncrunsrun_0 k s0 s1 s2 m (x0, ((IntKind.wrap (IntKind.i64) (x1 + (1 : Int))), (x2, ())))))
    none)
   (some (.brk (x0, (x1, (x2, ())))))) := by kernel_rfl
theorem F_runsRowoverlaps_step (k : Nat) (a0 : (List (TRun)) × (Unit)) (a1 : TItem) : F_runsRowoverlaps (k + 1) a0 a1 =
  (bdL (L_runsRowoverlaps_10_7_slicesIndexFuncrunsrun_0 k a0.1 () (((List.length a0.1) : Nat) : Int) k ((0 : Int), ((0 : Int), (a1, ()))))
   (fun (b : (Int) × ((Int) × (TRun))) => (some ((false, ()), ())))
   (fun (j : Nat) => (fun (b : (Int) × ((Int) × (TRun))) => none))
   (fun (q : (Int) × (Unit)) => (fun (b : TRun) => (some (((decide (q.1 ≥ (0 : Int))), ()), ()))))) := by kernel_rfl
noncomputable def L_runsRowsplit_0 (k : Nat) (s0 : Unit) (s1 : Unit) (s2 : Int) : Nat → (Int) × ((Int) × ((Int) × (((Unit) × (Unit)) × ((List (TRun)) × (Unit))))) → Option (LO ((Int) × (Unit)) ((Int) × ((Int) × ((Int) × (((Unit) × (Unit)) × ((List (TRun)) × (Unit)))))) (((List (TRun)) × (Unit)) × (Unit))) :=
  loopF true 0 60 28000000 27 cut28000000_27_0 (s0, s1, s2, ()) (fun σ K => bodyAt E0 (fnE E0 k) (inl5 E0 (fnE E0 k) k) 27 (rvOf 27) k (codeOf 27 0) _ σ K)
theorem L_runsRowsplit_0_step (k m : Nat) (s0 : Unit) (s1 : Unit) (s2 : Int) (x0 : Int) (x1 : Int) (x2 : Int) (x3 : (Unit) × (Unit)) (x4 : List (TRun)) : L_runsRowsplit_0 k s0 s1 s2 (m + 1) (x0, x1, x2, x3, x4, ()) =
  (br (decide (x2 < s2))
   (br (inB x2 (List.length x4))
    (br (x0 == (0 : Int))
     (some (.ret (x2, ()) ((x4, x3.2), ())))
     (br (decide (x0 < (List.getD x4 (Int.toNat x2) zRun).1.2.2.1))
      (bd (F_runsrunparts k (List.getD x4 (Int.toNat x2) zRun) x0) (fun (r : ((TRun) × ((TRun) × (Unit))) × (Unit)) => (bd (F_slicesReplacerunsrun k x4 x2 (IntKind.wrap (IntKind.i64) (x2 + (1 : Int))) (r.1.1 :: (r.1.2.1 :: ([] : List (TRun))))) (fun (r1 : ((List (TRun)) × (Unit)) × (Unit)) => (some (.ret ((IntKind.wrap (IntKind.i64) (x2 + (1 : Int))), ()) ((r1.1.1, x3.2), ())))))))
      (L_runsRowsplit_0 k s0 s1 s2 m ((IntKind.wrap (IntKind.i64) (x0 - (List.getD x4 (Int.toNat x2) zRun).1.2.2.1)), (x1, ((IntKind.wrap (IntKind.i64) (x2 + (1 : Int))), (x3, (x4, ()))))))))
    none)
   (some (.brk (x0, (x1, (x2, (x3, (x4, ())))))))) := by kernel_rfl
theorem F_runsRowsplit_step (k : Nat) (a0 : (List (TRun)) × (Unit)) (a1 : Int) : F_runsRowsplit (k + 1) a0 a1 =
  (bdL (L_runsRowsplit_0 k () () (((List.length a0.1) : Nat) : Int) k (a1, ((0 : Int), ((0 : Int), (((), a0.2), (a0.1, ()))))))
   (fun (b : (Int) × ((Int) × ((Int) × (((Unit) × (Unit)) × ((List (TRun)) × (Unit)))))) => (some (((((List.length b.2.2.2.2.1) : Nat) : Int), ()), ((b.2.2.2.2.1, b.2.2.2.1.2), ()))))
   (fun (j : Nat) => (fun (b : (Int) × ((Int) × ((Int) × (((Unit) × (Unit)) × ((List (TRun)) × (Unit)))))) => none))
   (fun (q : (Int) × (Unit)) => (fun (b : ((List (TRun)) × (Unit)) × (Unit)) => (some (q, (b.1, ())))))) := by kernel_rfl
noncomputable def L_runsruncut_1006 (k : Nat) (s0 : Unit) (s1 : Int) (s2 : Bool) : Nat → (List (TRun)) × ((TRun) × (Unit)) → Option (LO ((List (TRun)) × ((Int) × (Unit))) ((List (TRun)) × ((TRun) × (Unit))) ((TRun) × (Unit))) :=
  loopF false 1006 100 31000000 30 cut31000000_30_1006 (s0, s1, s2, ()) (fun σ K => bodyAt E0 (fnE E0 k) (inl5 E0 (fnE E0 k) k) 30 (rvOf 30) k (codeOf 30 1006) _ σ K)
noncomputable def L_runsruncut_1011 (k : Nat) (s0 : Unit) (s1 : Int) (s2 : Bool) : Nat → (List (TRun)) × ((TRun) × (Unit)) → Option (LO ((List (TRun)) × ((Int) × (Unit))) ((List (TRun)) × ((TRun) × (Unit))) ((TRun) × (Unit))) :=
  loopF false 1011 100 31000000 30 cut31000000_30_1011 (s0, s1, s2, ()) (fun σ K => bodyAt E0 (fnE E0 k) (inl5 E0 (fnE E0 k) k) 30 (rvOf 30) k (codeOf 30 1011) _ σ K)
theorem L_runsruncut_1006_step (k m : Nat) (s0 : Unit) (s1 : Int) (s2 : Bool) (x0 : List (TRun)) (x1 : TRun) : L_runsruncut_1006 k s0 s1 s2 (m + 1) (x0, x1, ()) =
  (br s2
   (bd (F_runsrunparts k x1 (IntKind.wrap (IntKind.i64) (s1 - x1.1.2.1))) (fun (r : ((TRun) × ((TRun) × (Unit))) × (Unit)) => (br (decide ((((List.length x0) + (List.length (r.1.1 :: ([] : List (TRun))))) * (104 : Nat)) ≤ (140737488355328 : Nat)))
     (some (.brk ((x0 ++ (r.1.1 :: ([] : List (TRun)))), (r.1.2.1, ()))))
     none)))
   (some (.brk (x0, (x1, ()))))) := by kernel_rfl
theorem L_runsruncut_1011_step (k m : Nat) (s0 : Unit) (s1 : Int) (s2 : Bool) (x0 : List (TRun)) (x1 : TRun) : L_runsruncut_1011 k s0 s1 s2 (m + 1) (x0, x1, ()) =
  (br s2
   (bd (F_runsrunparts k x1 (IntKind.wrap (IntKind.i64) (s1 - x1.1.2.1))) (fun (r : ((TRun) × ((TRun) × (Unit))) × (Unit)) => (br (decide ((((List.length x0) + (List.length (r.1.2.1 :: ([] : List (TRun))))) * (104 : Nat)) ≤ (140737488355328 : Nat)))
     (some (.brk ((x0 ++ (r.1.2.1 :: ([] : List (TRun)))), (r.1.1, ()))))
     none)))
   (some (.brk (x0, (x1, ()))))) := by kernel_rfl
theorem F_runsruncut_step (k : Nat) (a0 : TRun) (a1 : TCut) : F_runsruncut (k + 1) a0 a1 =
  (br (cond (cond (!(denEq (.pair (.int .i64) (.pair (.int .i64) .unit)) a0.1.1 a1.1)) true a0.1.2.2.2.2.2.1) true (decide ((if (a0.1.2.1 > a1.2.1) then a0.1.2.1 else a1.2.1) ≥ (if ((IntKind.wrap (IntKind.i64) (a0.1.2.1 + a0.1.2.2.1)) < a1.2.2.1) then (IntKind.wrap (IntKind.i64) (a0.1.2.1 + a0.1.2.2.1)) else a1.2.2.1))))
    (some (((a0 :: ([] : List (TRun))), ((0 : Int), ())), ()))
    (bdL (L_runsruncut_1006 k () (if (a0.1.2.1 > a1.2.1) then a0.1.2.1 else a1.2.1) (decide ((if (a0.1.2.1 > a1.2.1) then a0.1.2.1 else a1.2.1) > a0.1.2.1)) (1 : Nat) (([] : List (TRun)), (a0, ())))
     (fun (b : (List (TRun)) × ((TRun) × (Unit))) => (bdL (L_runsruncut_1011 k () (if ((IntKind.wrap (IntKind.i64) (a0.1.2.1 + a0.1.2.2.1)) < a1.2.2.1) then (IntKind.wrap (IntKind.i64) (a0.1.2.1 + a0.1.2.2.1)) else a1.2.2.1) (decide ((if ((IntKind.wrap (IntKind.i64) (a0.1.2.1 + a0.1.2.2.1)) < a1.2.2.1) then (IntKind.wrap (IntKind.i64) (a0.1.2.1 + a0.1.2.2.1)) else a1.2.2.1) < (IntKind.wrap (IntKind.i64) (b.2.1.1.2.1 + b.2.1.1.2.2.1)))) (1 : Nat) (([] : List (TRun)), (b.2.1, ())))
      (fun (b1 : (List (TRun)) × ((TRun) × (Unit))) => (br (decide ((((List.length b.1) + (List.length (((b1.2.1.1.1, (b1.2.1.1.2.1, (b1.2.1.1.2.2.1, (b1.2.1.1.2.2.2.1, (b1.2.1.1.2.2.2.2.1, (true, b1.2.1.1.2.2.2.2.2.2)))))), b1.2.1.2) :: ([] : List (TRun))))) * (104 : Nat)) ≤ (140737488355328 : Nat)))
       (br (decide ((((List.length (b.1 ++ (((b1.2.1.1.1, (b1.2.1.1.2.1, (b1.2.1.1.2.2.1, (b1.2.1.1.2.2.2.1, (b1.2.1.1.2.2.2.2.1, (true, b1.2.1.1.2.2.2.2.2.2)))))), b1.2.1.2) :: ([] : List (TRun))))) + (List.length b1.1)) * (104 : Nat)) ≤ (140737488355328 : Nat)))
         (some ((((b.1 ++ (((b1.2.1.1.1, (b1.2.1.1.2.1, (b1.2.1.1.2.2.1, (b1.2.1.1.2.2.2.1, (b1.2.1.1.2.2.2.2.1, (true, b1.2.1.1.2.2.2.2.2.2)))))), b1.2.1.2) :: ([] : List (TRun)))) ++ b1.1), (b1.2.1.1.2.2.1, ())), ()))
         none)
       none))
      (fun (j : Nat) => (fun (b1 : (List (TRun)) × ((TRun) × (Unit))) => none))
      (fun (q : (List (TRun)) × ((Int) × (Unit))) => (fun (b1 : (TRun) × (Unit)) => (some (q, ()))))))
     (fun (j : Nat) => (fun (b : (List (TRun)) × ((TRun) × (Unit))) => none))
     (fun (q : (List (TRun)) × ((Int) × (Unit))) => (fun (b : (TRun) × (Unit)) => (some (q, ())))))) :=
 (show F_runsruncut (k + 1) a0 a1 =
  (both
   (br (cond (cond (!(denEq (.pair (.int .i64) (.pair (.int .i64) .unit)) a0.1.1 a1.1)) true a0.1.2.2.2.2.2.1) true (decide ((if (a0.1.2.1 > a1.2.1) then a0.1.2.1 else a1.2.1) ≥ (if ((IntKind.wrap (IntKind.i64) (a0.1.2.1 + a0.1.2.2.1)) < a1.2.2.1) then (IntKind.wrap (IntKind.i64) (a0.1.2.1 + a0.1.2.2.1)) else a1.2.2.1))))
    (some (((a0 :: ([] : List (TRun))), ((0 : Int), ())), ()))
    (bdL (L_runsruncut_1006 k () (if (a0.1.2.1 > a1.2.1) then a0.1.2.1 else a1.2.1) (decide ((if (a0.1.2.1 > a1.2.1) then a0.1.2.1 else a1.2.1) > a0.1.2.1)) (1 : Nat) (([] : List (TRun)), (a0, ())))
     (fun (b : (List (TRun)) × ((TRun) × (Unit))) => (bdL (L_runsruncut_1011 k () (if ((IntKind.wrap (IntKind.i64) (a0.1.2.1 + a0.1.2.2.1)) < a1.2.2.1) then (IntKind.wrap (IntKind.i64) (a0.1.2.1 + a0.1.2.2.1)) else a1.2.2.1) (decide ((if ((IntKind.wrap (IntKind.i64) (a0.1.2.1 + a0.1.2.2.1)) < a1.2.2.1) then (IntKind.wrap (IntKind.i64) (a0.1.2.1 + a0.1.2.2.1)) else a1.2.2.1) < (IntKind.wrap (IntKind.i64) (b.2.1.1.2.1 + b.2.1.1.2.2.1)))) (1 : Nat) (([] : List (TRun)), (b.2.1, ())))
      (fun (b1 : (List (TRun)) × ((TRun) × (Unit))) => (br (decide ((((List.length b.1) + (List.length (((b1.2.1.1.1, (b1.2.1.1.2.1, (b1.2.1.1.2.2.1, (b1.2.1.1.2.2.2.1, (b1.2.1.1.2.2.2.2.1, (true, b1.2.1.1.2.2.2.2.2.2)))))), b1.2.1.2) :: ([] : List (TRun))))) * (104 : Nat)) ≤ (140737488355328 : Nat)))
       (both
        (br (decide ((((List.length (b.1 ++ (((b1.2.1.1.1, (b1.2.1.1.2.1, (b1.2.1.1.2.2.1, (b1.2.1.1.2.2.2.1, (b1.2.1.1.2.2.2.2.1, (true, b1.2.1.1.2.2.2.2.2.2)))))), b1.2.1.2) :: ([] : List (TRun))))) + (List.length b1.1)) * (104 : Nat)) ≤ (140737488355328 : Nat)))
         (some ((((b.1 ++ (((b1.2.1.1.1, (b1.2.1.1.2.1, (b1.2.1.1.2.2.1, (b1.2.1.1.2.2.2.1, (b1.2.1.1.2.2.2.2.1, (true, b1.2.1.1.2.2.2.2.2.2)))))), b1.2.1.2) :: ([] : List (TRun)))) ++ b1.1), (b1.2.1.1.2.2.1, ())), ()))
         none)
        (br (decide ((((List.length (b.1 ++ (((b1.2.1.1.1, (b1.2.1.1.2.1, (b1.2.1.1.2.2.1, (b1.2.1.1.2.2.2.1, (b1.2.1.1.2.2.2.2.1, (true, b1.2.1.1.2.2.2.2.2.2)))))), b1.2.1.2) :: ([] : List (TRun))))) + (List.length b1.1)) * (104 : Nat)) ≤ (140737488355328 : Nat)))
         (some ((((b.1 ++ (((b1.2.1.1.1, (b1.2.1.1.2.1, (b1.2.1.1.2.2.1, (b1.2.1.1.2.2.2.1, (b1.2.1.1.2.2.2.2.1, (true, b1.2.1.1.2.2.2.2.2.2)))))), b1.2.1.2) :: ([] : List (TRun)))) ++ b1.1), (b1.2.1.1.2.2.1, ())), ()))
         none))
       none))
      (fun (j : Nat) => (fun (b1 : (List (TRun)) × ((TRun) × (Unit))) => none))
      (fun (q : (List (TRun)) × ((Int) × (Unit))) => (fun (b1 : (TRun) × (Unit)) => (some (q, ()))))))
     (fun (j : Nat) => (fun (b : (List (TRun)) × ((TRun) × (Unit))) => none))
     (fun (q : (List (TRun)) × ((Int) × (Unit))) => (fun (b : (TRun) × (Unit)) => (some (q, ()))))))
   (br (cond (cond (!(denEq (.pair (.int .i64) (.pair (.int .i64) .unit)) a0.1.1 a1.1)) true a0.1.2.2.2.2.2.1) true (decide ((if (a0.1.2.1 > a1.2.1) then a0.1.2.1 else a1.2.1) ≥ (if ((IntKind.wrap (IntKind.i64) (a0.1.2.1 + a0.1.2.2.1)) < a1.2.2.1) then (IntKind.wrap (IntKind.i64) (a0.1.2.1 + a0.1.2.2.1)) else a1.2.2.1))))
    (some (((a0 :: ([] : List (TRun))), ((0 : Int), ())), ()))
    (bdL (L_runsruncut_1006 k () (if (a0.1.2.1 > a1.2.1) then a0.1.2.1 else a1.2.1) (decide ((if (a0.1.2.1 > a1.2.1) then a0.1.2.1 else a1.2.1) > a0.1.2.1)) (1 : Nat) (([] : List (TRun)), (a0, ())))
     (fun (b : (List (TRun)) × ((TRun) × (Unit))) => (bdL (L_runsruncut_1011 k () (if ((IntKind.wrap (IntKind.i64) (a0.1.2.1 + a0.1.2.2.1)) < a1.2.2.1) then (IntKind.wrap (IntKind.i64) (a0.1.2.1 + a0.1.2.2.1)) else a1.2.2.1) (decide ((if ((IntKind.wrap (IntKind.i64) (a0.1.2.1 + a0.1.2.2.1)) < a1.2.2.1) then (IntKind.wrap (IntKind.i64) (a0.1.2.1 + a0.1.2.2.1)) else a1.2.2.1) < (IntKind.wrap (IntKind.i64) (b.2.1.1.2.1 + b.2.1.1.2.2.1)))) (1 : Nat) (([] : List (TRun)), (b.2.1, ())))
      (fun (b1 : (List (TRun)) × ((TRun) × (Unit))) => (br (decide ((((List.length b.1) + (List.length (((b1.2.1.1.1, (b1.2.1.1.2.1, (b1.2.1.1.2.2.1, (b1.2.1.1.2.2.2.1, (b1.2.1.1.2.2.2.2.1, (true, b1.2.1.1.2.2.2.2.2.2)))))), b1.2.1.2) :: ([] : List (TRun))))) * (104 : Nat)) ≤ (140737488355328 : Nat)))
       (both
        (br (decide ((((List.length (b.1 ++ (((b1.2.1.1.1, (b1.2.1.1.2.1, (b1.2.1.1.2.2.1, (b1.2.1.1.2.2.2.1, (b1.2.1.1.2.2.2.2.1, (true, b1.2.1.1.2.2.2.2.2.2)))))), b1.2.1.2) :: ([] : List (TRun))))) + (List.length b1.1)) * (104 : Nat)) ≤ (140737488355328 : Nat)))
         (some ((((b.1 ++ (((b1.2.1.1.1, (b1.2.1.1.2.1, (b1.2.1.1.2.2.1, (b1.2.1.1.2.2.2.1, (b1.2.1.1.2.2.2.2.1, (true, b1.2.1.1.2.2.2.2.2.2)))))), b1.2.1.2) :: ([] : List (TRun)))) ++ b1.1), (b1.2.1.1.2.2.1, ())), ()))
         none)
        (br (decide ((((List.length (b.1 ++ (((b1.2.1.1.1, (b1.2.1.1.2.1, (b1.2.1.1.2.2.1, (b1.2.1.1.2.2.2.1, (b1.2.1.1.2.2.2.2.1, (true, b1.2.1.1.2.2.2.2.2.2)))))), b1.2.1.2) :: ([] : List (TRun))))) + (List.length b1.1)) * (104 : Nat)) ≤ (140737488355328 : Nat)))
         (some ((((b.1 ++ (((b1.2.1.1.1, (b1.2.1.1.2.1, (b1.2.1.1.2.2.1, (b1.2.1.1.2.2.2.1, (b1.2.1.1.2.2.2.2.1, (true, b1.2.1.1.2.2.2.2.2.2)))))), b1.2.1.2) :: ([] : List (TRun)))) ++ b1.1), (b1.2.1.1.2.2.1, ())), ()))
         none))
       none))
      (fun (j : Nat) => (fun (b1 : (List (TRun)) × ((TRun) × (Unit))) => none))
      (fun (q : (List (TRun)) × ((Int) × (Unit))) => (fun (b1 : (TRun) × (Unit)) => (some (q, ()))))))
     (fun (j : Nat) => (fun (b : (List (TRun)) × ((TRun) × (Unit))) => none))
     (fun (q : (List (TRun)) × ((Int) × (Unit))) => (fun (b : (TRun) × (Unit)) => (some (q, ()))))))) by kernel_rfl).trans (by simp only [both_self])
noncomputable def L_ref10RowPut_0 (k : Nat) (s0 : Unit) (s1 : TItem) : Nat → (Int) × ((List (TItem)) × ((Int) × (((List (TItem)) × (Unit)) × (Unit)))) → Option (LO ((Int) × (Unit)) ((Int) × ((List (TItem)) × ((Int) × (((List (TItem)) × (Unit)) × (Unit))))) (((List (TItem)) × (Unit)) × (Unit))) :=
  loopF true 0 135 14000000 13 cut14000000_13_0 (s0, s1, ()) (fun σ K => bodyAt E0 (fnE E0 k) (inl5 E0 (fnE E0 k) k) 13 (rvOf 13) k (codeOf 13 0) _ σ K)
theorem L_ref10RowPut_0_step (k m : Nat) (s0 : Unit) (s1 : TItem) (x0 : Int) (x1 : List (TItem)) (x2 : Int) (x3 : (List (TItem)) × (Unit)) : L_ref10RowPut_0 k s0 s1 (m + 1) (x0, x1, x2, x3, ()) =
  (br (decide (x2 < s1.2.2.1))
   (bd (F_ref10RowFind k x3 (s1.1, ((IntKind.wrap (IntKind.i64) (s1.2.1 + x2)), ()))) (fun (r : ((Int) × ((Bool) × (Unit))) × (Unit)) => (br r.1.2.1
     (some (.ret ((12 : Int), ()) (x3, ())))
     (br ((true && (leB (IntKind.wrap (IntKind.i64) (x2 + (1 : Int))) (List.length s1.2.2.2.2.2.2.2.1))) && (leB x2 (Int.toNat (IntKind.wrap (IntKind.i64) (x2 + (1 : Int))))))
      (br (decide ((((List.length x1) + (List.length ((s1.1, ((IntKind.wrap (IntKind.i64) (s1.2.1 + x2)), ((1 : Int), ((((0 : Int), ((0 : Int), (dflt._f .unit ()))), ((0 : Int), (dflt._f .unit ()))), ((((0 : Int), ((0 : Int), (dflt._f .unit ()))), ((0 : Int), (dflt._f .unit ()))), (s1.2.2.2.2.2.1, (s1.2.2.2.2.2.2.1, ((List.drop (Int.toNat x2) (List.take (Int.toNat (IntKind.wrap (IntKind.i64) (x2 + (1 : Int)))) s1.2.2.2.2.2.2.2.1)), ())))))))) :: ([] : List (TItem))))) * (104 : Nat)) ≤ (140737488355328 : Nat)))
       (L_ref10RowPut_0 k s0 s1 m (x0, ((x1 ++ ((s1.1, ((IntKind.wrap (IntKind.i64) (s1.2.1 + x2)), ((1 : Int), ((((0 : Int), ((0 : Int), (dflt._f .unit ()))), ((0 : Int), (dflt._f .unit ()))), ((((0 : Int), ((0 : Int), (dflt._f .unit ()))), ((0 : Int), (dflt._f .unit ()))), (s1.2.2.2.2.2.1, (s1.2.2.2.2.2.2.1, ((List.drop (Int.toNat x2) (List.take (Int.toNat (IntKind.wrap (IntKind.i64) (x2 + (1 : Int)))) s1.2.2.2.2.2.2.2.1)), ())))))))) :: ([] : List (TItem)))), ((IntKind.wrap (IntKind.i64) (x2 + (1 : Int))), (x3, ())))))
       none)
      none))))
   (some (.brk (x0, (x1, (x2, (x3, ()))))))) := by kernel_rfl
theorem F_ref10RowPut_step (k : Nat) (a0 : (List (TItem)) × (Unit)) (a1 : Int) (a2 : TItem) : F_ref10RowPut (k + 1) a0 a1 a2 =
  (bd (F_ref03RightOp k a2.1) (fun (r : ((Bool) × (Unit)) × (Unit)) => (br (cond (cond (cond (cond (cond (cond (cond (!r.1.1) true (decide (a2.2.2.1 < (1 : Int)))) true (decide (a2.2.2.1 > (64 : Int)))) true (decide (a2.2.1 < (0 : Int)))) true (decide (a2.2.1 > (64 : Int)))) true (decide ((IntKind.wrap (IntKind.i64) (a2.2.1 + a2.2.2.1)) > (64 : Int)))) true ((((List.length a2.2.2.2.2.2.2.2.1) : Nat) : Int) != a2.2.2.1)) true (cond a2.2.2.2.2.2.2.1 (decide (a2.2.2.1 > (1 : Int))) false))
    (some (((10 : Int), ()), (a0, ())))
    (br (decide (a1 < (0 : Int)))
     (some (((11 : Int), ()), (a0, ())))
     (br (cond false true (decide (a1 > (((List.length a0.1) : Nat) : Int))))
      (some (((11 : Int), ()), (a0, ())))
      (bdL (L_ref10RowPut_0 k () a2 k ((0 : Int), (([] : List (TItem)), ((0 : Int), (a0, ())))))
       (fun (b : (Int) × ((List (TItem)) × ((Int) × (((List (TItem)) × (Unit)) × (Unit))))) => (br ((true && (leB a1 (List.length b.2.2.2.1.1))) && true)
        (br (decide ((((0 : Nat) + (List.length (List.take ((Int.toNat a1) - (0 : Nat)) (List.drop (0 : Nat) b.2.2.2.1.1)))) * (104 : Nat)) ≤ (140737488355328 : Nat)))
         (br (decide ((((List.length (([] : List (TItem)) ++ (List.take ((Int.toNat a1) - (0 : Nat)) (List.drop (0 : Nat) b.2.2.2.1.1)))) + (List.length b.2.1)) * (104 : Nat)) ≤ (140737488355328 : Nat)))
          (br (true && (leB a1 (List.length b.2.2.2.1.1)))
           (br (decide ((((List.length ((([] : List (TItem)) ++ (List.take ((Int.toNat a1) - (0 : Nat)) (List.drop (0 : Nat) b.2.2.2.1.1))) ++ b.2.1)) + (List.length (List.take ((List.length b.2.2.2.1.1) - (Int.toNat a1)) (List.drop (Int.toNat a1) b.2.2.2.1.1)))) * (104 : Nat)) ≤ (140737488355328 : Nat)))
            (some (((0 : Int), ()), (((((([] : List (TItem)) ++ (List.take ((Int.toNat a1) - (0 : Nat)) (List.drop (0 : Nat) b.2.2.2.1.1))) ++ b.2.1) ++ (List.take ((List.length b.2.2.2.1.1) - (Int.toNat a1)) (List.drop (Int.toNat a1) b.2.2.2.1.1))), b.2.2.2.1.2), ())))
            none)
           none)
          none)
         none)
        none))
       (fun (j : Nat) => (fun (b : (Int) × ((List (TItem)) × ((Int) × (((List (TItem)) × (Unit)) × (Unit))))) => none))
       (fun (q : (Int) × (Unit)) => (fun (b : ((List (TItem)) × (Unit)) × (Unit)) => (some (q, (b.1, ()))))))))))) := by kernel_rfl
end Go.Proofs.Ythlpjdjipchdkaa.E

namespace Go.Proofs.Ythlpjdjipchdkaa.E
open Go
set_option linter.unusedVariables false
set_option maxRecDepth 100000
noncomputable def F_runsRowPut (k : Nat) (a0 : (List (TRun)) × (Unit)) (a1 : Int) (a2 : TItem) : Option (((Int) × (Unit)) × (((List (TRun)) × (Unit)) × (Unit))) := fnE E0 k 10 (a0, a1, a2, ())
noncomputable def F_runsRowCut (k : Nat) (a0 : (List (TRun)) × (Unit)) (a1 : TCut) : Option (((Int) × (Unit)) × (((List (TRun)) × (Unit)) × (Unit))) := fnE E0 k 11 (a0, a1, ())
noncomputable def F_law10alive (k : Nat)  : Option (((Bool) × (Unit)) × (Unit)) := fnE E0 k 7 ()
noncomputable def F_law10great (k : Nat) (a0 : List (TRCall)) : Option (((Bool) × (Unit)) × (Unit)) := fnE E0 k 8 (a0, ())
theorem F_runsRowPut_step (k : Nat) (a0 : (List (TRun)) × (Unit)) (a1 : Int) (a2 : TItem) : F_runsRowPut (k + 1) a0 a1 a2 =
  (bd (F_runsright k a2) (fun (r : ((Bool) × (Unit)) × (Unit)) => (br (!r.1.1)
    (some (((10 : Int), ()), (a0, ())))
    (br (decide (a1 < (0 : Int)))
     (some (((11 : Int), ()), (a0, ())))
     (bd (F_runsRowLen k a0) (fun (r1 : ((Int) × (Unit)) × (Unit)) => (br (cond false true (decide (a1 > r1.1.1)))
       (some (((11 : Int), ()), (a0, ())))
       (bd (F_runsRowoverlaps k a0 a2) (fun (r2 : ((Bool) × (Unit)) × (Unit)) => (br r2.1.1
         (some (((12 : Int), ()), (a0, ())))
         (bd (F_runsRowsplit k a0 a1) (fun (r3 : ((Int) × (Unit)) × (((List (TRun)) × (Unit)) × (Unit))) => (bd (F_slicesInsertrunsrun k r3.2.1.1 r3.1.1 (((a2.1, (a2.2.1, (a2.2.2.1, ((((0 : Int), ((0 : Int), (dflt._f .unit ()))), ((0 : Int), ())), ((((0 : Int), ((0 : Int), (dflt._f .unit ()))), ((0 : Int), ())), a2.2.2.2.2.2))))), ()) :: ([] : List (TRun)))) (fun (r4 : ((List (TRun)) × (Unit)) × (Unit)) => (bd (F_runsRowmend k (r4.1.1, r3.2.1.2)) (fun (r5 : (Unit) × (((List (TRun)) × (Unit)) × (Unit))) => (some (((0 : Int), ()), (r5.2.1, ()))))))))))))))))))) := by kernel_rfl
noncomputable def L_runsRowCut_0 (k : Nat) (s0 : TCut) (s1 : List (TRun)) (s2 : Int) : Nat → (Int) × ((List (TRun)) × ((Int) × (Unit))) → Option (LO ((Int) × (Unit)) ((Int) × ((List (TRun)) × ((Int) × (Unit)))) (Unit)) :=
  loopF true 0 40 12000000 11 cut12000000_11_0 (s0, s1, s2, ()) (fun σ K => bodyAt E0 (fnE E0 k) (inl5 E0 (fnE E0 k) k) 11 (rvOf 11) k (codeOf 11 0) _ σ K)
theorem L_runsRowCut_0_step (k m : Nat) (s0 : TCut) (s1 : List (TRun)) (s2 : Int) (x0 : Int) (x1 : List (TRun)) (x2 : Int) : L_runsRowCut_0 k s0 s1 s2 (m + 1) (x0, x1, x2, ()) =
  (br (decide (x2 < s2))
   (br (inB x2 (List.length s1))
    (bd (F_runsruncut k (List.getD s1 (Int.toNat x2) zRun) s0) (fun (r : ((List (TRun)) × ((Int) × (Unit))) × (Unit)) => (br (decide ((((List.length x1) + (List.length r.1.1)) * (104 : Nat)) ≤ (140737488355328 : Nat)))
      (L_runsRowCut_0 k s0 s1 s2 m ((IntKind.wrap (IntKind.i64) (x0 + r.1.2.1)), ((x1 ++ r.1.1), ((IntKind.wrap (IntKind.i64) (x2 + (1 : Int))), ()))))
      none)))
    none)
   (some (.brk (x0, (x1, (x2, ())))))) := by kernel_rfl
theorem F_runsRowCut_step (k : Nat) (a0 : (List (TRun)) × (Unit)) (a1 : TCut) : F_runsRowCut (k + 1) a0 a1 =
  (bdL (L_runsRowCut_0 k a1 a0.1 (((List.length a0.1) : Nat) : Int) k ((0 : Int), (([] : List (TRun)), ((0 : Int), ()))))
   (fun (b : (Int) × ((List (TRun)) × ((Int) × (Unit)))) => (bd (F_runsRowmend k (b.2.1, a0.2)) (fun (r : (Unit) × (((List (TRun)) × (Unit)) × (Unit))) => (some ((b.1, ()), (r.2.1, ()))))))
   (fun (j : Nat) => (fun (b : (Int) × ((List (TRun)) × ((Int) × (Unit)))) => none))
   (fun (q : (Int) × (Unit)) => (fun (b : Unit) => (some (q, (a0, ())))))) := by kernel_rfl
theorem F_law10alive_step (k : Nat)  : F_law10alive (k + 1)  =
  (bd (F_runsNew k ) (fun (r : (((List (TRun)) × (Unit)) × (Unit)) × (Unit)) => (bd (F_law10item k (0 : Int) (1 : Int) (0 : Int) ([97, 98, 99] : List UInt8)) (fun (r1 : (TRun) × (Unit)) => (bd (F_runsRowPut k r.1.1 (0 : Int) r1.1.1) (fun (r2 : ((Int) × (Unit)) × (((List (TRun)) × (Unit)) × (Unit))) => (br (cond false true (r2.1.1 != (0 : Int)))
      (some ((false, ()), ()))
      (bd (F_law10item k (0 : Int) (1 : Int) (2 : Int) ([120] : List UInt8)) (fun (r3 : (TRun) × (Unit)) => (bd (F_runsRowPut k r2.2.1 (0 : Int) r3.1.1) (fun (r4 : ((Int) × (Unit)) × (((List (TRun)) × (Unit)) × (Unit))) => (br (cond false true (r4.1.1 != (12 : Int)))
         (some ((false, ()), ()))
         (bd (F_runsRowCut k r4.2.1 (((0 : Int), ((1 : Int), ())), ((1 : Int), ((2 : Int), ())))) (fun (r5 : ((Int) × (Unit)) × (((List (TRun)) × (Unit)) × (Unit))) => (bd (F_runsRowRuns k r5.2.1) (fun (r6 : ((List (TItem)) × (Unit)) × (Unit)) => (bd (F_runsRowFind k r5.2.1 (((0 : Int), ((1 : Int), ())), ((2 : Int), ()))) (fun (r7 : ((Int) × ((Bool) × (Unit))) × (Unit)) => (br (cond (r5.1.1 == (1 : Int)) ((((List.length r6.1.1) : Nat) : Int) == (3 : Int)) false)
             (br (inB (1 : Int) (List.length r6.1.1))
              (br (cond true (List.getD r6.1.1 (1 : Nat) zItem).2.2.2.2.2.1 false)
               (bd (F_runsRowText k r5.2.1) (fun (r8 : ((List (UInt8)) × (Unit)) × (Unit)) => (br (cond (cond (cond true (r8.1.1 == ([97, 99] : List UInt8)) false) r7.1.2.1 false) (r7.1.1 == (2 : Int)) false)
                 (bd (F_runsRowLen k r5.2.1) (fun (r9 : ((Int) × (Unit)) × (Unit)) => (br (cond true (r9.1.1 == (3 : Int)) false)
                   (bd (F_runsRowLive k r5.2.1) (fun (r10 : ((Int) × (Unit)) × (Unit)) => (some (((cond true (r10.1.1 == (2 : Int)) false), ()), ()))))
                   (some ((false, ()), ())))))
                 (some ((false, ()), ())))))
               (some ((false, ()), ())))
              none)
             (some ((false, ()), ()))))))))))))))))))))) := by kernel_rfl
noncomputable def L_law10great_0 (k : Nat) (s0 : List (TRCall)) : Nat → (Bool) × ((Int) × (Unit)) → Option (LO ((Bool) × (Unit)) ((Bool) × ((Int) × (Unit))) (Unit)) :=
  loopF true 0 21 9000000 8 cut9000000_8_0 (s0, ()) (fun σ K => bodyAt E0 (fnE E0 k) (inl5 E0 (fnE E0 k) k) 8 (rvOf 8) k (codeOf 8 0) _ σ K)
theorem L_law10great_0_step (k m : Nat) (s0 : List (TRCall)) (x0 : Bool) (x1 : Int) : L_law10great_0 k s0 (m + 1) (x0, x1, ()) =
  (br (decide (x1 < (((List.length s0) : Nat) : Int)))
   (br (inB x1 (List.length s0))
    (br (decide ((((List.length (List.getD s0 (Int.toNat x1) zRC).2.2.1.2.2.2.2.2.2.2.1) : Nat) : Int) > (200 : Int)))
     (some (.ret (true, ()) ()))
     (L_law10great_0 k s0 m (x0, ((IntKind.wrap (IntKind.i64) (x1 + (1 : Int))), ()))))
    none)
   (some (.brk (x0, (x1, ()))))) := by kernel_rfl
theorem F_law10great_step (k : Nat) (a0 : List (TRCall)) : F_law10great (k + 1) a0 =
  (br (decide ((((List.length a0) : Nat) : Int) > (100 : Int)))
   (some ((true, ()), ()))
   (bdL (L_law10great_0 k a0 k (false, ((0 : Int), ())))
    (fun (b : (Bool) × ((Int) × (Unit))) => (some ((false, ()), ())))
    (fun (j : Nat) => (fun (b : (Bool) × ((Int) × (Unit))) => none))
    (fun (q : (Bool) × (Unit)) => (fun (b : Unit) => (some (q, ())))))) := by kernel_rfl
end Go.Proofs.Ythlpjdjipchdkaa.E

set_option linter.unusedSimpArgs false
set_option linter.unusedVariables false
namespace Go.Proofs.Ythlpjdjipchdkaa.E
structure Ch where
  op : TId
  i : Int
  gone : Bool
  mark : Bool
  b : UInt8
def zC : TChar := ((0, 0, ()), 0, ())
@[reducible] def iop (x : TItem) : TId := x.1
@[reducible] def ifr (x : TItem) : Int := x.2.1
@[reducible] def iln (x : TItem) : Int := x.2.2.1
@[reducible] def igo (x : TItem) : Bool := x.2.2.2.2.2.1
@[reducible] def imk (x : TItem) : Bool := x.2.2.2.2.2.2.1
@[reducible] def itx (x : TItem) : List UInt8 := x.2.2.2.2.2.2.2.1
def chT (op : TId) (g m : Bool) : Int → List UInt8 → List Ch
  | _, [] => []
  | i, b :: t => ⟨op, i, g, m, b⟩ :: chT op g m (i + 1) t
def chs (x : TItem) : List Ch := chT (iop x) (igo x) (imk x) (ifr x) (itx x)
theorem chT_len (op : TId) (g m : Bool) : ∀ (i : Int) (t : List UInt8), (chT op g m i t).length = t.length
  | _, [] => rfl
  | i, b :: t => by simp [chT, chT_len op g m (i + 1) t]
theorem chT_app (op : TId) (g m : Bool) : ∀ (i : Int) (s t : List UInt8), chT op g m i (s ++ t) = chT op g m i s ++ chT op g m (i + s.length) t
  | i, [], t => by simp [chT]
  | i, b :: s, t => by
    simp only [List.cons_append, chT, chT_app op g m (i + 1) s t, List.length_cons]
    congr 3
    omega
theorem chT_get (op : TId) (g m : Bool) : ∀ (i : Int) (t : List UInt8) (k : Nat) (hk : k < t.length), (chT op g m i t)[k]? = some ⟨op, i + k, g, m, t[k]⟩
  | i, b :: t, 0, _ => by simp [chT]
  | i, b :: t, k + 1, hk => by
    simp only [chT, List.getElem?_cons_succ, List.getElem_cons_succ]
    rw [chT_get op g m (i + 1) t k (by simpa using hk)]
    congr 2
    omega
theorem chT_take (op : TId) (g m : Bool) (i : Int) (t : List UInt8) (n : Nat) : chT op g m i (t.take n) = (chT op g m i t).take n := by
  conv => rhs; rw [← List.take_append_drop n t, chT_app]
  by_cases h : n ≤ t.length
  · rw [List.take_left']
    rw [chT_len, List.length_take]; omega
  · rw [List.take_of_length_le (l := t) (by omega), List.drop_eq_nil_of_le (by omega)]
    simp only [chT, List.append_nil]
    rw [List.take_of_length_le]
    rw [chT_len]; omega
theorem chT_drop (op : TId) (g m : Bool) (i : Int) (t : List UInt8) (n : Nat) (h : n ≤ t.length) : chT op g m (i + n) (t.drop n) = (chT op g m i t).drop n := by
  conv => rhs; rw [← List.take_append_drop n t, chT_app]
  rw [List.drop_left']
  · congr 2
    rw [List.length_take]; omega
  · rw [chT_len, List.length_take]; omega
theorem mem_chT (op : TId) (g m : Bool) : ∀ (i : Int) (t : List UInt8) (c : Ch), c ∈ chT op g m i t ↔ ∃ k : Nat, ∃ h : k < t.length, c = ⟨op, i + k, g, m, t[k]⟩ := by
  intro i t c
  constructor
  · intro h
    obtain ⟨k, hk, e⟩ := List.getElem_of_mem h
    have hk' : k < t.length := by rw [chT_len] at hk; exact hk
    refine ⟨k, hk', ?_⟩
    have := chT_get op g m i t k hk'
    rw [List.getElem?_eq_getElem hk] at this
    rw [← e]; exact Option.some.inj this
  · rintro ⟨k, hk, rfl⟩
    exact List.mem_of_getElem? (chT_get op g m i t k hk)
structure WFr (x : TItem) : Prop where
  len : iln x = (itx x).length
  pos : 1 ≤ iln x
  from0 : 0 ≤ ifr x
  le : ifr x + iln x ≤ 64
  one : imk x = true → iln x = 1
  left : x.2.2.2.1 = zC
  right : x.2.2.2.2.1 = zC
theorem WFr.chs_len {x : TItem} (h : WFr x) : ((chs x).length : Int) = iln x := by
  unfold chs; rw [chT_len, h.len]
def joinsB (a b : TItem) : Bool := decide (iop a = iop b) && decide (ifr a + iln a = ifr b) && (igo a == igo b) && !imk a && !imk b
def joinI (a b : TItem) : TItem := (iop a, ifr a, iln a + iln b, a.2.2.2.1, a.2.2.2.2.1, igo a, imk a, itx a ++ itx b, ())
theorem joinsB_iff {a b : TItem} : joinsB a b = true ↔ iop a = iop b ∧ ifr a + iln a = ifr b ∧ igo a = igo b ∧ imk a = false ∧ imk b = false := by
  simp [joinsB, and_assoc]
theorem joinI_chs {a b : TItem} (ha : WFr a) (h : joinsB a b = true) : chs (joinI a b) = chs a ++ chs b := by
  obtain ⟨h1, h2, h3, h4, h5⟩ := joinsB_iff.1 h
  unfold chs joinI
  simp only [iop, ifr, igo, imk, itx]
  rw [chT_app]
  congr 1
  have hl := ha.len
  simp only [iop, ifr, igo, imk, itx, iln] at *
  rw [h1, h3, h4, h5, ← hl, h2]
theorem joinI_wf {a b : TItem} (ha : WFr a) (hb : WFr b) (h : joinsB a b = true) : WFr (joinI a b) := by
  obtain ⟨h1, h2, h3, h4, h5⟩ := joinsB_iff.1 h
  have q1 := ha.len; have q2 := ha.pos; have q3 := ha.from0; have q4 := ha.le
  have p1 := hb.len; have p2 := hb.pos; have p3 := hb.from0; have p4 := hb.le
  simp only [iop, ifr, igo, imk, itx, iln] at *
  refine ⟨?_, ?_, ?_, ?_, ?_, ha.left, ha.right⟩ <;> simp only [joinI, iop, ifr, igo, imk, itx, iln, List.length_append] at *
  · omega
  · omega
  · omega
  · omega
  · intro e; rw [h4] at e; cases e
def mendF (out : List TItem) (r : TItem) : List TItem :=
  match out.getLast? with
  | some a => if joinsB a r then out.dropLast ++ [joinI a r] else out ++ [r]
  | none => [r]
def mendL (out : List TItem) (l : List TItem) : List TItem := l.foldl mendF out
def NJ (l : List TItem) : Prop := ∀ i (h : i + 1 < l.length), joinsB l[i] l[i + 1] = false
def flatC (l : List TItem) : List Ch := (l.map chs).flatten
theorem flatC_app (a b : List TItem) : flatC (a ++ b) = flatC a ++ flatC b := by simp [flatC]
theorem flatC_one (a : TItem) : flatC [a] = chs a := by simp [flatC]
theorem flatC_nil : flatC [] = [] := rfl
theorem flatC_cons (a : TItem) (l : List TItem) : flatC (a :: l) = chs a ++ flatC l := by simp [flatC]
theorem joinsB_joinI (p a r : TItem) : joinsB p (joinI a r) = joinsB p a := rfl
theorem NJ.app {d : List TItem} {a : TItem} (h : NJ d) (ha : ∀ b, d.getLast? = some b → joinsB b a = false) : NJ (d ++ [a]) := by
  intro i hi
  simp only [List.length_append, List.length_singleton] at hi
  by_cases h1 : i + 1 < d.length
  · rw [List.getElem_append_left (by omega), List.getElem_append_left h1]
    exact h i h1
  · have h2 : i + 1 = d.length := by omega
    rw [List.getElem_append_left (by omega), List.getElem_append_right (by omega)]
    simp only [h2, Nat.sub_self, List.getElem_singleton]
    apply ha
    rw [List.getLast?_eq_getElem?, show d.length - 1 = i by omega, List.getElem?_eq_getElem]
theorem NJ.front {d : List TItem} {a : TItem} (h : NJ (d ++ [a])) : NJ d ∧ ∀ b, d.getLast? = some b → joinsB b a = false := by
  constructor
  · intro i hi
    have := h i (by simp; omega)
    rwa [List.getElem_append_left (by omega), List.getElem_append_left hi] at this
  · intro b hb
    rw [List.getLast?_eq_getElem?] at hb
    have hl : d.length - 1 < d.length := (List.getElem?_eq_some_iff.1 hb).1
    have := h (d.length - 1) (by simp; omega)
    rw [List.getElem_append_left hl, List.getElem_append_right (by omega)] at this
    simp only [show d.length - 1 + 1 - d.length = 0 by omega, List.getElem_singleton] at this
    rw [List.getElem?_eq_getElem hl] at hb
    rw [← Option.some.inj hb]; exact this
theorem mendF_spec {out : List TItem} {r : TItem} (hw : ∀ x ∈ out, WFr x) (hr : WFr r) (hn : NJ out) :
    flatC (mendF out r) = flatC out ++ chs r ∧ (∀ x ∈ mendF out r, WFr x) ∧ NJ (mendF out r) := by
  unfold mendF
  cases hl : out.getLast? with
  | none =>
    have : out = [] := by simpa using hl
    subst this
    exact ⟨by simp [flatC], by simpa using hr, fun i hi => by simp at hi⟩
  | some a =>
    obtain ⟨d, rfl⟩ := List.getLast?_eq_some_iff.1 hl
    have ha : WFr a := hw a (by simp)
    simp only
    by_cases hj : joinsB a r = true
    · rw [if_pos hj, List.dropLast_concat]
      refine ⟨?_, ?_, ?_⟩
      · rw [flatC_app, flatC_app, flatC_one, flatC_one, joinI_chs ha hj, List.append_assoc]
      · intro x hx
        rcases List.mem_append.1 hx with hx | hx
        · exact hw x (by simp [hx])
        · obtain rfl : x = joinI a r := by simpa using hx
          exact joinI_wf ha hr hj
      · exact hn.front.1.app fun b hb => by rw [joinsB_joinI]; exact hn.front.2 b hb
    · rw [if_neg hj]
      refine ⟨by rw [flatC_app, flatC_one], ?_, ?_⟩
      · intro x hx
        rcases List.mem_append.1 hx with hx | hx
        · exact hw x hx
        · obtain rfl : x = r := by simpa using hx
          exact hr
      · refine hn.app fun b hb => ?_
        rw [hl] at hb
        obtain rfl := Option.some.inj hb
        simpa using hj
theorem mendL_spec : ∀ {l out : List TItem}, (∀ x ∈ out, WFr x) → (∀ x ∈ l, WFr x) → NJ out → flatC (mendL out l) = flatC out ++ flatC l ∧ (∀ x ∈ mendL out l, WFr x) ∧ NJ (mendL out l)
  | [], out, hw, _, hn => ⟨by simp [mendL, flatC], hw, hn⟩
  | r :: l, out, hw, hl, hn => by
    obtain ⟨h1, h2, h3⟩ := mendF_spec hw (hl r (by simp)) hn
    obtain ⟨g1, g2, g3⟩ := mendL_spec (l := l) h2 (fun x hx => hl x (by simp [hx])) h3
    refine ⟨?_, g2, g3⟩
    show flatC (mendL (mendF out r) l) = _
    rw [g1, h1, flatC_cons, List.append_assoc]
def one (c : Ch) : TItem := (c.op, c.i, 1, zC, zC, c.gone, c.mark, [c.b], ())
theorem mend_rest (op : TId) (g : Bool) (L R : TChar) : ∀ (t s : List UInt8) (fr : Int) (out : List TItem),
    mendL (out ++ [(op, fr, (s.length : Int), L, R, g, false, s, ())]) ((chT op g false (fr + s.length) t).map one) = out ++ [(op, fr, ((s ++ t).length : Int), L, R, g, false, s ++ t, ())]
  | [], s, fr, out => by simp [chT, mendL]
  | b :: t, s, fr, out => by
    rw [chT, List.map_cons]
    show mendL (mendF (out ++ [(op, fr, (s.length : Int), L, R, g, false, s, ())]) (one ⟨op, fr + s.length, g, false, b⟩)) _ = _
    have e : mendF (out ++ [(op, fr, (s.length : Int), L, R, g, false, s, ())]) (one ⟨op, fr + s.length, g, false, b⟩) = out ++ [(op, fr, ((s ++ [b]).length : Int), L, R, g, false, s ++ [b], ())] := by
      unfold mendF
      rw [List.getLast?_concat]
      simp only
      have hj : joinsB (op, fr, (s.length : Int), L, R, g, false, s, ()) (one ⟨op, fr + s.length, g, false, b⟩) = true := by simp [joinsB, one]
      rw [if_pos hj, List.dropLast_concat]
      simp [joinI, one]
    rw [e]
    have := mend_rest op g L R t (s ++ [b]) fr out
    rw [show fr + ((s ++ [b]).length : Int) = fr + s.length + 1 by simp; omega] at this
    rw [this, List.append_assoc]
    rfl
theorem mend_run {out : List TItem} {r : TItem} (hr : WFr r) (hn : ∀ b, out.getLast? = some b → joinsB b r = false) : mendL out ((chs r).map one) = out ++ [r] := by
  obtain ⟨op, fr, ln, L, R, g, m, t, u⟩ := r
  have h1 := hr.len; have h2 := hr.one; have h3 := hr.left; have h4 := hr.right; have h5 := hr.pos
  simp only [iop, ifr, igo, imk, itx, iln] at h1 h2 h3 h4 h5
  subst h3 h4 h1
  cases t with
  | nil => simp at h5
  | cons b t =>
    unfold chs
    simp only [iop, ifr, igo, imk, itx, chT, List.map_cons]
    show mendL (mendF out (one ⟨op, fr, g, m, b⟩)) _ = _
    have e : mendF out (one ⟨op, fr, g, m, b⟩) = out ++ [(op, fr, 1, zC, zC, g, m, [b], ())] := by
      unfold mendF
      cases hl : out.getLast? with
      | none => have : out = [] := by simpa using hl
                subst this; rfl
      | some a =>
        simp only
        have := hn a hl
        have e : joinsB a (one ⟨op, fr, g, m, b⟩) = false := this
        rw [if_neg (by rw [e]; simp)]
        rfl
    rw [e]
    cases m with
    | false =>
      have := mend_rest op g zC zC t [b] fr out
      simp only [List.length_singleton, List.singleton_append] at this
      exact this
    | true =>
      have h2 := h2 rfl
      have : t = [] := by
        cases t with
        | nil => rfl
        | cons c t => simp at h2; omega
      subst this
      rfl
theorem mend_canon : ∀ {l out : List TItem}, (∀ x ∈ l, WFr x) → NJ (out ++ l) → mendL out ((flatC l).map one) = out ++ l
  | [], out, _, _ => by simp [flatC, mendL]
  | r :: l, out, hw, hn => by
    have hn' : NJ (out ++ [r] ++ l) := by simpa using hn
    have hlast : ∀ b, out.getLast? = some b → joinsB b r = false := by
      have : NJ (out ++ [r]) := by
        intro i hi
        have h1 := hn' i (by rw [List.length_append]; omega)
        rwa [List.getElem_append_left (by omega), List.getElem_append_left hi] at h1
      exact this.front.2
    rw [flatC_cons, List.map_append]
    have e : mendL out ((chs r).map one ++ (flatC l).map one) = mendL (mendL out ((chs r).map one)) ((flatC l).map one) := by simp [mendL, List.foldl_append]
    rw [e, mend_run (hw r (by simp)) hlast, mend_canon (fun x hx => hw x (by simp [hx])) hn']
    simp
end Go.Proofs.Ythlpjdjipchdkaa.E

set_option linter.unusedSimpArgs false
set_option linter.unusedVariables false
namespace Go.Proofs.Ythlpjdjipchdkaa.E
def AllWF (l : List TItem) : Prop := ∀ x ∈ l, WFr x
def partA (r : TItem) (n : Int) : TItem := (iop r, ifr r, n, r.2.2.2.1, r.2.2.2.2.1, igo r, imk r, (itx r).take n.toNat, ())
def partB (r : TItem) (n : Int) : TItem := (iop r, ifr r + n, iln r - n, r.2.2.2.1, r.2.2.2.2.1, igo r, imk r, (itx r).drop n.toNat, ())
theorem partA_wf {r : TItem} (h : WFr r) {n : Int} (h1 : 0 < n) (h2 : n < iln r) : WFr (partA r n) := by
  have q1 := h.len; have q2 := h.pos; have q3 := h.from0; have q4 := h.le; have q5 := h.one
  refine ⟨?_, ?_, ?_, ?_, ?_, h.left, h.right⟩ <;> simp only [partA, iop, ifr, igo, imk, itx, iln, List.length_take] at *
  · omega
  · omega
  · omega
  · omega
  · intro e; have := q5 e; omega
theorem partB_wf {r : TItem} (h : WFr r) {n : Int} (h1 : 0 < n) (h2 : n < iln r) : WFr (partB r n) := by
  have q1 := h.len; have q2 := h.pos; have q3 := h.from0; have q4 := h.le; have q5 := h.one
  refine ⟨?_, ?_, ?_, ?_, ?_, h.left, h.right⟩ <;> simp only [partB, iop, ifr, igo, imk, itx, iln, List.length_drop] at *
  · omega
  · omega
  · omega
  · omega
  · intro e; have := q5 e; omega
theorem partA_chs (r : TItem) (n : Int) : chs (partA r n) = (chs r).take n.toNat := by
  unfold chs partA
  simp only [iop, ifr, igo, imk, itx, iln]
  rw [chT_take]
theorem partB_chs {r : TItem} (h : WFr r) {n : Int} (h1 : 0 ≤ n) (h2 : n ≤ iln r) : chs (partB r n) = (chs r).drop n.toNat := by
  have q1 := h.len
  unfold chs partB
  simp only [iop, ifr, igo, imk, itx, iln] at *
  rw [← chT_drop _ _ _ _ _ _ (by omega)]
  congr 1
  omega
def splitL : List TItem → Nat → List TItem × Nat
  | [], _ => ([], 0)
  | r :: l, n => if n = 0 then (r :: l, 0) else if (n : Int) < iln r then (partA r n :: partB r n :: l, 1) else (r :: (splitL l (n - (iln r).toNat)).1, (splitL l (n - (iln r).toNat)).2 + 1)
theorem splitL_spec : ∀ {l : List TItem} {n : Nat}, AllWF l → n ≤ (flatC l).length →
    AllWF (splitL l n).1 ∧ (splitL l n).2 ≤ (splitL l n).1.length ∧ flatC ((splitL l n).1.take (splitL l n).2) = (flatC l).take n ∧ flatC ((splitL l n).1.drop (splitL l n).2) = (flatC l).drop n
  | [], n, _, hn => by
    simp [flatC] at hn
    subst hn
    simp [splitL, flatC, AllWF]
  | r :: l, n, hw, hn => by
    have hr : WFr r := hw r (by simp)
    have hl : AllWF l := fun x hx => hw x (by simp [hx])
    have hlen := hr.chs_len
    have hp := hr.pos
    unfold splitL
    by_cases h0 : n = 0
    · subst h0
      simp [flatC, hw]
    · rw [if_neg h0]
      by_cases h1 : (n : Int) < iln r
      · rw [if_pos h1]
        refine ⟨?_, by simp, ?_, ?_⟩
        · intro x hx
          simp only [List.mem_cons] at hx
          rcases hx with rfl | rfl | hx
          · exact partA_wf hr (by omega) h1
          · exact partB_wf hr (by omega) h1
          · exact hl x hx
        · simp only [List.take_succ_cons, List.take_zero, flatC_cons, flatC_nil, List.append_nil]
          rw [partA_chs, Int.toNat_natCast, List.take_append_of_le_length (by omega)]
        · simp only [List.drop_succ_cons, List.drop_zero, flatC_cons]
          rw [partB_chs hr (by omega) (by omega), Int.toNat_natCast, List.drop_append_of_le_length (by omega)]
      · rw [if_neg h1]
        rw [flatC_cons, List.length_append] at hn
        have hrn : (iln r).toNat = (chs r).length := by omega
        obtain ⟨g1, g2, g3, g4⟩ := splitL_spec (l := l) (n := n - (iln r).toNat) hl (by omega)
        refine ⟨?_, by simpa using g2, ?_, ?_⟩
        · intro x hx
          simp only [List.mem_cons] at hx
          rcases hx with rfl | hx
          · exact hr
          · exact g1 x hx
        · simp only [List.take_succ_cons, flatC_cons, g3]
          rw [List.take_append, List.take_of_length_le (l := chs r) (by omega), hrn]
        · simp only [List.drop_succ_cons, flatC_cons, g4]
          rw [List.drop_append, @List.drop_eq_nil_of_le _ (chs r) _ (by omega), hrn]
          rfl
def hitB (c : TCut) (x : Ch) : Bool := decide (x.op = c.1) && decide (c.2.1 ≤ x.i) && decide (x.i < c.2.2.1)
def cutC (c : TCut) (x : Ch) : Ch := if hitB c x then { x with gone := true } else x
def newB (c : TCut) (x : Ch) : Bool := hitB c x && !x.gone
def goneI (r : TItem) : TItem := (iop r, ifr r, iln r, r.2.2.2.1, r.2.2.2.2.1, true, imk r, itx r, ())
theorem chT_map_cut (c : TCut) (op : TId) (g m : Bool) (i : Int) (t : List UInt8) (h : op = c.1) (h1 : c.2.1 ≤ i) (h2 : i + t.length ≤ c.2.2.1) : (chT op g m i t).map (cutC c) = chT op true m i t := by
  induction t generalizing i with
  | nil => rfl
  | cons b t ih =>
    simp only [List.length_cons] at h2
    simp only [chT, List.map_cons]
    rw [ih (i + 1) (by omega) (by omega)]
    congr 1
    unfold cutC hitB
    simp only [h, decide_true, Bool.true_and]
    rw [if_pos (by simp; omega)]
theorem chT_map_miss (c : TCut) (op : TId) (g m : Bool) (i : Int) (t : List UInt8) (h : op ≠ c.1 ∨ i + t.length ≤ c.2.1 ∨ c.2.2.1 ≤ i ∨ g = true) : (chT op g m i t).map (cutC c) = chT op g m i t := by
  induction t generalizing i with
  | nil => rfl
  | cons b t ih =>
    simp only [List.length_cons] at h
    simp only [chT, List.map_cons]
    rw [ih (i + 1) (by rcases h with h | h | h | h; exact .inl h; exact .inr (.inl (by omega)); exact .inr (.inr (.inl (by omega))); exact .inr (.inr (.inr h)))]
    congr 1
    unfold cutC hitB
    split
    · rename_i hh
      simp only [Bool.and_eq_true, decide_eq_true_eq] at hh
      rcases h with h | h | h | h
      · exact absurd hh.1.1 h
      · omega
      · omega
      · rw [h]
    · rfl
theorem count_hit (c : TCut) (op : TId) (m : Bool) (i : Int) (t : List UInt8) (h : op = c.1) (h1 : c.2.1 ≤ i) (h2 : i + t.length ≤ c.2.2.1) : (chT op false m i t).countP (newB c) = t.length := by
  induction t generalizing i with
  | nil => rfl
  | cons b t ih =>
    simp only [List.length_cons] at h2
    simp only [chT]
    rw [List.countP_cons_of_pos, ih (i + 1) (by omega) (by omega)]
    · rfl
    · unfold newB hitB
      simp only [h, decide_true, Bool.true_and, Bool.not_false, Bool.and_true, Bool.and_eq_true, decide_eq_true_eq]
      omega
theorem count_miss (c : TCut) (op : TId) (g m : Bool) (i : Int) (t : List UInt8) (h : op ≠ c.1 ∨ i + t.length ≤ c.2.1 ∨ c.2.2.1 ≤ i ∨ g = true) : (chT op g m i t).countP (newB c) = 0 := by
  rw [List.countP_eq_zero]
  intro x hx
  obtain ⟨k, hk, rfl⟩ := (mem_chT _ _ _ _ _ _).1 hx
  unfold newB hitB
  simp only [Bool.and_eq_true, decide_eq_true_eq, Bool.not_eq_true', not_and]
  intro ⟨⟨a, b⟩, d⟩
  rcases h with h | h | h | h
  · exact absurd a h
  · omega
  · omega
  · simp [h]
end Go.Proofs.Ythlpjdjipchdkaa.E

set_option linter.unusedSimpArgs false
set_option linter.unusedVariables false
namespace Go.Proofs.Ythlpjdjipchdkaa.E
theorem chs_split {r : TItem} (h : WFr r) {n : Int} (h1 : 0 ≤ n) (h2 : n ≤ iln r) : chs r = chs (partA r n) ++ chs (partB r n) := by
  rw [partA_chs, partB_chs h h1 h2, List.take_append_drop]
theorem chs_map_miss (c : TCut) {x : TItem} (h : WFr x) (hm : iop x ≠ c.1 ∨ ifr x + iln x ≤ c.2.1 ∨ c.2.2.1 ≤ ifr x ∨ igo x = true) : (chs x).map (cutC c) = chs x ∧ (chs x).countP (newB c) = 0 := by
  unfold chs
  have := h.len
  rw [this] at hm
  exact ⟨chT_map_miss c _ _ _ _ _ hm, count_miss c _ _ _ _ _ hm⟩
theorem chs_map_hit (c : TCut) {x : TItem} (h : WFr x) (h1 : iop x = c.1) (h2 : c.2.1 ≤ ifr x) (h3 : ifr x + iln x ≤ c.2.2.1) (hg : igo x = false) :
    (chs x).map (cutC c) = chs (goneI x) ∧ ((chs x).countP (newB c) : Int) = iln x := by
  have hl := h.len
  unfold chs
  rw [hl] at h3
  constructor
  · exact chT_map_cut c _ _ _ _ _ h1 h2 h3
  · rw [hg, count_hit c _ _ _ _ h1 h2 h3, hl]
theorem goneI_wf {x : TItem} (h : WFr x) : WFr (goneI x) := ⟨h.len, h.pos, h.from0, h.le, h.one, h.left, h.right⟩
def cutPre (r : TItem) (f : Int) : List TItem × TItem := if f > ifr r then ([partA r (f - ifr r)], partB r (f - ifr r)) else ([], r)
def cutPost (r : TItem) (t : Int) : List TItem × TItem := if t < ifr r + iln r then ([partB r (t - ifr r)], partA r (t - ifr r)) else ([], r)
def cutR (r : TItem) (c : TCut) : List TItem × Int :=
  if iop r ≠ c.1 ∨ igo r = true ∨ max c.2.1 (ifr r) ≥ min c.2.2.1 (ifr r + iln r) then ([r], 0)
  else ((cutPre r (max c.2.1 (ifr r))).1 ++ [goneI (cutPost (cutPre r (max c.2.1 (ifr r))).2 (min c.2.2.1 (ifr r + iln r))).2] ++ (cutPost (cutPre r (max c.2.1 (ifr r))).2 (min c.2.2.1 (ifr r + iln r))).1,
    iln (cutPost (cutPre r (max c.2.1 (ifr r))).2 (min c.2.2.1 (ifr r + iln r))).2)
theorem cutPre_spec {r : TItem} (h : WFr r) {f : Int} (h1 : ifr r ≤ f) (h2 : f < ifr r + iln r) :
    chs r = flatC (cutPre r f).1 ++ chs (cutPre r f).2 ∧ AllWF (cutPre r f).1 ∧ WFr (cutPre r f).2 ∧ iop (cutPre r f).2 = iop r ∧ igo (cutPre r f).2 = igo r ∧ ifr (cutPre r f).2 = f ∧ ifr (cutPre r f).2 + iln (cutPre r f).2 = ifr r + iln r ∧
    (∀ x ∈ (cutPre r f).1, iop x = iop r ∧ igo x = igo r ∧ ifr x + iln x = f ∧ WFr x ∧ ifr r < f) := by
  unfold cutPre
  by_cases hf : f > ifr r
  · rw [if_pos hf]
    refine ⟨?_, ?_, partB_wf h (by omega) (by omega), rfl, rfl, ?_, ?_, ?_⟩
    · rw [flatC_one]; exact chs_split h (by omega) (by omega)
    · intro x hx
      obtain rfl : x = _ := by simpa using hx
      exact partA_wf h (by omega) (by omega)
    · simp only [partB, ifr]; omega
    · simp only [partB, ifr, iln]; omega
    · intro x hx
      obtain rfl : x = _ := by simpa using hx
      refine ⟨rfl, rfl, ?_, partA_wf h (by omega) (by omega), hf⟩
      simp only [partA, ifr, iln]; omega
  · rw [if_neg hf]
    refine ⟨rfl, fun x hx => by simp at hx, h, rfl, rfl, by show ifr r = f; omega, rfl, fun x hx => by simp at hx⟩
theorem cutPost_spec {r : TItem} (h : WFr r) {t : Int} (h1 : ifr r < t) (h2 : t ≤ ifr r + iln r) :
    chs r = chs (cutPost r t).2 ++ flatC (cutPost r t).1 ∧ AllWF (cutPost r t).1 ∧ WFr (cutPost r t).2 ∧ iop (cutPost r t).2 = iop r ∧ igo (cutPost r t).2 = igo r ∧ ifr (cutPost r t).2 = ifr r ∧ ifr (cutPost r t).2 + iln (cutPost r t).2 = t ∧
    (∀ x ∈ (cutPost r t).1, iop x = iop r ∧ igo x = igo r ∧ ifr x = t ∧ WFr x ∧ t < ifr r + iln r) := by
  unfold cutPost
  by_cases hf : t < ifr r + iln r
  · rw [if_pos hf]
    refine ⟨?_, ?_, partA_wf h (by omega) (by omega), rfl, rfl, rfl, ?_, ?_⟩
    · rw [flatC_one]; exact chs_split h (by omega) (by omega)
    · intro x hx
      obtain rfl : x = _ := by simpa using hx
      exact partB_wf h (by omega) (by omega)
    · simp only [partA, ifr, iln]; omega
    · intro x hx
      obtain rfl : x = _ := by simpa using hx
      refine ⟨rfl, rfl, ?_, partB_wf h (by omega) (by omega), hf⟩
      simp only [partB, ifr]; omega
  · rw [if_neg hf]
    refine ⟨by simp [flatC], fun x hx => by simp at hx, h, rfl, rfl, rfl, by show ifr r + iln r = t; omega, fun x hx => by simp at hx⟩
theorem flatC_miss (c : TCut) : ∀ {l : List TItem}, (∀ x ∈ l, (chs x).map (cutC c) = chs x ∧ (chs x).countP (newB c) = 0) → (flatC l).map (cutC c) = flatC l ∧ (flatC l).countP (newB c) = 0
  | [], _ => ⟨rfl, rfl⟩
  | x :: l, h => by
    obtain ⟨h1, h2⟩ := h x (by simp)
    obtain ⟨g1, g2⟩ := flatC_miss c (l := l) (fun y hy => h y (by simp [hy]))
    rw [flatC_cons, List.map_append, List.countP_append, h1, h2, g1, g2]
    exact ⟨rfl, rfl⟩
theorem cutR_spec {r : TItem} (c : TCut) (h : WFr r) : flatC (cutR r c).1 = (chs r).map (cutC c) ∧ AllWF (cutR r c).1 ∧ (cutR r c).2 = ((chs r).countP (newB c) : Nat) := by
  unfold cutR
  have hp := h.pos
  split
  · rename_i hc
    have hm : (chs r).map (cutC c) = chs r ∧ (chs r).countP (newB c) = 0 := by
      rcases hc with hc | hc | hc
      · exact chs_map_miss c h (.inl hc)
      · exact chs_map_miss c h (.inr (.inr (.inr hc)))
      · by_cases e : c.2.1 ≥ ifr r + iln r
        · exact chs_map_miss c h (.inr (.inl (by omega)))
        · by_cases e2 : c.2.2.1 ≤ ifr r
          · exact chs_map_miss c h (.inr (.inr (.inl (by omega))))
          · -- an empty stretch
            have e3 : c.2.2.1 ≤ c.2.1 := by omega
            have hnone : ∀ x, hitB c x = false := fun x => by
              unfold hitB
              rw [Bool.eq_false_iff]
              intro hh
              simp only [Bool.and_eq_true, decide_eq_true_eq] at hh
              omega
            constructor
            · rw [List.map_congr_left (g := id) (fun x _ => by unfold cutC; rw [hnone]; rfl), List.map_id]
            · rw [List.countP_eq_zero]
              intro x _
              unfold newB; rw [hnone]; simp
    rw [flatC_one, hm.1, hm.2]
    exact ⟨rfl, fun x hx => by obtain rfl : x = r := by simpa using hx
                               exact h, rfl⟩
  · rename_i hc
    simp only [not_or, Classical.not_not, ne_eq] at hc
    obtain ⟨h1, h2, h3⟩ := hc
    have h2 : igo r = false := by simpa using h2
    obtain ⟨a1, a2, a3, a4, a5, a6, a7, a8⟩ := cutPre_spec h (f := max c.2.1 (ifr r)) (by omega) (by omega)
    generalize cutPre r (max c.2.1 (ifr r)) = p at *
    obtain ⟨b1, b2, b3, b4, b5, b6, b7, b8⟩ := cutPost_spec a3 (t := min c.2.2.1 (ifr r + iln r)) (by omega) (by omega)
    generalize cutPost p.2 (min c.2.2.1 (ifr r + iln r)) = q at *
    obtain ⟨m1, m2⟩ := flatC_miss c (l := p.1) (fun x hx => by
      obtain ⟨x1, x2, x3, x4, x5⟩ := a8 x hx
      exact chs_map_miss c x4 (.inr (.inl (by omega))))
    obtain ⟨n1, n2⟩ := flatC_miss c (l := q.1) (fun x hx => by
      obtain ⟨x1, x2, x3, x4, x5⟩ := b8 x hx
      exact chs_map_miss c x4 (.inr (.inr (.inl (by omega)))))
    obtain ⟨k1, k2⟩ := chs_map_hit c b3 (by rw [b4, a4]; exact h1) (by omega) (by omega) (by rw [b5, a5]; exact h2)
    refine ⟨?_, ?_, ?_⟩
    · rw [flatC_app, flatC_app, flatC_one, a1, b1]
      simp only [List.map_append]
      rw [m1, n1, k1, List.append_assoc]
    · intro x hx
      simp only [List.mem_append, List.mem_singleton] at hx
      rcases hx with (hx | hx) | hx
      · exact a2 x hx
      · rw [hx]; exact goneI_wf b3
      · exact b2 x hx
    · rw [a1, b1, List.countP_append, List.countP_append, m2, n2]
      simp only
      omega
end Go.Proofs.Ythlpjdjipchdkaa.E

set_option linter.unusedSimpArgs false
set_option linter.unusedVariables false
namespace Go.Proofs.Ythlpjdjipchdkaa.E
def keyB (op : TId) (j : Int) (x : Ch) : Bool := decide (x.op = op) && decide (x.i = j)
theorem chT_find (op : TId) (g m : Bool) (o : TId) (j : Int) : ∀ (t : List UInt8) (i : Int), (chT op g m i t).findIdx? (keyB o j) = if op = o ∧ i ≤ j ∧ j < i + t.length then some (j - i).toNat else none
  | [], i => by
    rw [if_neg (by rintro ⟨_, h1, h2⟩; simp at h2; omega)]
    rfl
  | b :: t, i => by
    rw [chT, List.findIdx?_cons, chT_find op g m o j t (i + 1)]
    have hkk : keyB o j ⟨op, i, g, m, b⟩ = true ↔ op = o ∧ i = j := by simp [keyB]
    have hlen : (((b :: t).length : Nat) : Int) = t.length + 1 := by simp
    rw [hlen]
    by_cases h0 : keyB o j ⟨op, i, g, m, b⟩ = true
    · obtain ⟨h1, h2⟩ := hkk.1 h0
      rw [h0, if_pos rfl, if_pos ⟨h1, by omega, by omega⟩, show (j - i).toNat = 0 by omega]
    · rw [if_neg h0]
      by_cases hr : op = o ∧ i + 1 ≤ j ∧ j < i + 1 + t.length
      · rw [if_pos hr, if_pos ⟨hr.1, by omega, by omega⟩]
        simp only [Option.map_some, Option.some.injEq]
        omega
      · rw [if_neg hr, if_neg (fun h => hr ⟨h.1, by
          have : i ≠ j := fun e => h0 (hkk.2 ⟨h.1, e⟩)
          omega, by omega⟩)]
        rfl
def hasB (r : TItem) (o : TId) (j : Int) : Bool := decide (iop r = o) && decide (j ≥ ifr r) && decide (j < ifr r + iln r)
theorem chs_find {r : TItem} (h : WFr r) (o : TId) (j : Int) : (chs r).findIdx? (keyB o j) = if hasB r o j = true then some (j - ifr r).toNat else none := by
  unfold chs
  rw [chT_find]
  have := h.len
  by_cases hh : hasB r o j = true
  · rw [if_pos hh]
    simp only [hasB, Bool.and_eq_true, decide_eq_true_eq] at hh
    rw [if_pos ⟨hh.1.1, hh.1.2, by omega⟩]
  · rw [if_neg hh]
    simp only [hasB, Bool.and_eq_true, decide_eq_true_eq] at hh
    rw [if_neg (fun h => hh ⟨⟨h.1, h.2.1⟩, by omega⟩)]
def findL (o : TId) (j : Int) : List TItem → Nat → Option Nat
  | [], _ => none
  | r :: l, at_ => if hasB r o j = true then some (at_ + (j - ifr r).toNat) else findL o j l (at_ + (iln r).toNat)
theorem findL_spec (o : TId) (j : Int) : ∀ {l : List TItem} {n : Nat}, AllWF l → findL o j l n = ((flatC l).findIdx? (keyB o j)).map (n + ·)
  | [], n, _ => by simp [findL, flatC]
  | r :: l, n, hw => by
    have hr : WFr r := hw r (by simp)
    have hp := hr.pos
    have hlen := hr.chs_len
    rw [findL, flatC_cons, List.findIdx?_append, chs_find hr, findL_spec o j (fun x hx => hw x (by simp [hx]))]
    by_cases hh : hasB r o j = true
    · rw [if_pos hh, if_pos hh]; rfl
    · rw [if_neg hh, if_neg hh]
      cases (flatC l).findIdx? (keyB o j) with
      | none => rfl
      | some k =>
        simp only [Option.map_some, Option.none_or, Option.some.injEq]
        omega
def overB (x r : TItem) : Bool := decide (iop r = iop x) && decide (ifr r < ifr x + iln x) && decide (ifr x < ifr r + iln r)
theorem overB_iff {x r : TItem} (hx : 1 ≤ iln x) (hr : WFr r) : overB x r = true ↔ ∃ k : Nat, (k : Int) < iln x ∧ ∃ c ∈ chs r, keyB (iop x) (ifr x + k) c = true := by
  have hl := hr.len
  have hp := hr.pos
  simp only [overB, Bool.and_eq_true, decide_eq_true_eq]
  constructor
  · rintro ⟨⟨h1, h2⟩, h3⟩
    by_cases hb : ifr r ≤ ifr x
    · refine ⟨0, by omega, ?_⟩
      have hk : (ifr x - ifr r).toNat < (itx r).length := by omega
      refine ⟨_, (mem_chT _ _ _ _ _ _).2 ⟨(ifr x - ifr r).toNat, hk, rfl⟩, ?_⟩
      simp only [keyB, h1, decide_true, Bool.true_and, decide_eq_true_eq]
      omega
    · refine ⟨(ifr r - ifr x).toNat, by omega, ?_⟩
      have hk : 0 < (itx r).length := by omega
      refine ⟨_, (mem_chT _ _ _ _ _ _).2 ⟨0, hk, rfl⟩, ?_⟩
      simp only [keyB, h1, decide_true, Bool.true_and, decide_eq_true_eq]
      omega
  · rintro ⟨k, hk, c, hc, hkc⟩
    obtain ⟨q, hq, rfl⟩ := (mem_chT _ _ _ _ _ _).1 hc
    simp only [keyB, Bool.and_eq_true, decide_eq_true_eq] at hkc
    refine ⟨⟨hkc.1, ?_⟩, ?_⟩ <;> omega
def atL : List TItem → Int → Option TItem
  | [], _ => none
  | r :: l, n => if n < iln r then some (iop r, ifr r + n, 1, zC, zC, igo r, imk r, ((itx r).take (n.toNat + 1)).drop n.toNat, ()) else atL l (n - iln r)
theorem atL_spec : ∀ {l : List TItem} {n : Int}, AllWF l → 0 ≤ n → atL l n = ((flatC l)[n.toNat]?).map one
  | [], n, _, _ => by simp [atL, flatC]
  | r :: l, n, hw, h0 => by
    have hr : WFr r := hw r (by simp)
    have hp := hr.pos
    have hlen := hr.chs_len
    have hl := hr.len
    rw [atL, flatC_cons]
    by_cases hn : n < iln r
    · have hk : n.toNat < (itx r).length := by omega
      rw [if_pos hn, List.getElem?_append_left (by omega)]
      unfold chs
      rw [chT_get _ _ _ _ _ _ hk]
      simp only [Option.map_some, one, Option.some.injEq]
      have e : List.drop n.toNat (List.take (n.toNat + 1) (itx r)) = [(itx r)[n.toNat]] := by
        rw [List.take_add_one, List.getElem?_eq_getElem hk]
        rw [List.drop_append_of_le_length (by rw [List.length_take]; omega), List.drop_eq_nil_of_le (by rw [List.length_take]; omega)]
        rfl
      rw [e, show ((n.toNat : Nat) : Int) = n by omega]
    · rw [if_neg hn, atL_spec (fun x hx => hw x (by simp [hx])) (by omega), List.getElem?_append_right (by omega)]
      congr 2
      omega
theorem flatC_len : ∀ {l : List TItem}, AllWF l → ((flatC l).length : Int) = (l.map iln).sum
  | [], _ => rfl
  | r :: l, hw => by
    rw [flatC_cons, List.length_append, List.map_cons, List.sum_cons, ← flatC_len (fun x hx => hw x (by simp [hx])), ← (hw r (by simp)).chs_len]
    omega
def liveB (x : Ch) : Bool := !x.gone && !x.mark
theorem chT_live (op : TId) (g m : Bool) : ∀ (i : Int) (t : List UInt8), ((chT op g m i t).filter liveB).map (·.b) = if g = true ∨ m = true then [] else t
  | i, [] => by simp [chT]
  | i, b :: t => by
    rw [chT]
    cases g <;> cases m <;> simp [liveB, chT_live _ _ _ (i + 1) t]
def liveT (r : TItem) : List UInt8 := if igo r = true ∨ imk r = true then [] else itx r
theorem flatC_live : ∀ (l : List TItem), ((flatC l).filter liveB).map (·.b) = (l.map liveT).flatten
  | [] => rfl
  | r :: l => by
    rw [flatC_cons, List.filter_append, List.map_append, flatC_live l]
    simp only [chs, chT_live, List.map_cons, List.flatten_cons]
    rfl
end Go.Proofs.Ythlpjdjipchdkaa.E

namespace Go.Proofs.Ythlpjdjipchdkaa.E
open Go
set_option linter.unusedSimpArgs false
set_option linter.unusedVariables false
theorem br_t {R : Type} {c : Bool} {a b : Option R} (h : c = true) : br c a b = a := by rw [h]; rfl
theorem br_f {R : Type} {c : Bool} {a b : Option R} (h : c = false) : br c a b = b := by rw [h]; rfl
@[simp] theorem br_true {R : Type} {a b : Option R} : br true a b = a := rfl
@[simp] theorem br_false {R : Type} {a b : Option R} : br false a b = b := rfl
@[simp] theorem bd_s {A R : Type} {x : A} {f : A → Option R} : bd (some x) f = f x := rfl
@[simp] theorem bdL_b {Q X B R : Type} {b : X} {f : X → Option R} {g : Nat → X → Option R} {h : Q → B → Option R} : bdL (some (LO.brk b)) f g h = f b := rfl
@[simp] theorem bdL_e {Q X B R : Type} {b : X} {j : Nat} {f : X → Option R} {g : Nat → X → Option R} {h : Q → B → Option R} : bdL (some (LO.ext j b)) f g h = g j b := rfl
@[simp] theorem bdL_r {Q X B R : Type} {q : Q} {b : B} {f : X → Option R} {g : Nat → X → Option R} {h : Q → B → Option R} : bdL (some (LO.ret q b)) f g h = h q b := rfl
theorem inB_t {i : Int} {n : Nat} (h : 0 ≤ i ∧ i < n) : inB i n = true := inB_iff.2 h
@[simp] theorem cond_f (x y : Bool) : cond x y false = (x && y) := by cases x <;> rfl
@[simp] theorem cond_t (x y : Bool) : cond x true y = (x || y) := by cases x <;> rfl
@[simp] theorem boolEq_t (x : Bool) : boolEq x true = x := by cases x <;> rfl
theorem i_lt {i n : Nat} (h : i < n) : decide ((i : Int) < (n : Int)) = true := by simp; omega
theorem i_ge (n : Nat) : decide ((n : Int) < (n : Int)) = false := by simp
theorem i_in {i n : Nat} (h : i < n) : inB (i : Int) n = true := inB_t ⟨by omega, by omega⟩
theorem wr {x : Int} (h : -9223372036854775808 ≤ x ∧ x < 9223372036854775808) : IntKind.wrap IntKind.i64 x = x := IntWalk.i64_in _ ⟨by omega, by omega⟩
theorem i_nx {i : Nat} (h : i < 4611686018427387904) : IntKind.i64.wrap ((i : Int) + 1) = ((i + 1 : Nat) : Int) := by
  rw [IntWalk.i64_in _ ⟨by omega, by omega⟩]; omega
theorem getD_of {α : Type} {l : List α} {i : Nat} (h : i < l.length) (d : α) : List.getD l (Int.toNat (i : Int)) d = l[i] := by simp [List.getD, h]
def runL {S A R : Type} (f : S → A → S ⊕ R) : S → List A → S ⊕ R
  | s, [] => .inl s
  | s, x :: l => match f s x with
    | .inl s => runL f s l
    | .inr r => .inr r
theorem for_run {S A R : Type} {L : Nat → Int → S → Option R} {l : List A} (f : S → A → S ⊕ R) (fin : S → R) (I : Nat → S → Prop)
    (hs : ∀ m i s, (h : i < l.length) → I i s → L (m + 1) (i : Int) s = (match f s l[i] with | .inl s' => L m ((i + 1 : Nat) : Int) s' | .inr r => some r) ∧ ∀ s', f s l[i] = .inl s' → I (i + 1) s')
    (he : ∀ m s, I l.length s → L (m + 1) (l.length : Int) s = some (fin s)) :
    ∀ m i s, i ≤ l.length → l.length - i < m → I i s → L m (i : Int) s = some (match runL f s (l.drop i) with | .inl s => fin s | .inr r => r)
  | 0, i, s, _, h, _ => by omega
  | m + 1, i, s, h1, h2, h3 => by
    by_cases h : i < l.length
    · obtain ⟨e1, e2⟩ := hs m i s h h3
      rw [e1, List.drop_eq_getElem_cons h]
      simp only [runL]
      cases hf : f s l[i] with
      | inl s' => exact for_run f fin I hs he m (i + 1) s' (by omega) (by omega) (e2 s' hf)
      | inr r => rfl
    · have : i = l.length := by omega
      subst this
      rw [he m s h3]; simp [runL]
theorem for_run0 {S A R : Type} {L : Nat → Int → S → Option R} {l : List A} (f : S → A → S ⊕ R) (fin : S → R) (I : Nat → S → Prop)
    (hs : ∀ m i s, (h : i < l.length) → I i s → L (m + 1) (i : Int) s = (match f s l[i] with | .inl s' => L m ((i + 1 : Nat) : Int) s' | .inr r => some r) ∧ ∀ s', f s l[i] = .inl s' → I (i + 1) s')
    (he : ∀ m s, I l.length s → L (m + 1) (l.length : Int) s = some (fin s)) (m : Nat) (s : S) (hm : l.length < m) (h0 : I 0 s) :
    L m 0 s = some (match runL f s l with | .inl s => fin s | .inr r => r) := by
  have := for_run f fin I hs he m 0 s (by omega) (by omega) h0
  simpa using this
theorem runL_fold {S A R : Type} (f : S → A → S) : ∀ (l : List A) (s : S), runL (R := R) (fun s x => .inl (f s x)) s l = .inl (l.foldl f s)
  | [], s => rfl
  | x :: l, s => by simp only [runL, List.foldl_cons]; exact runL_fold f l (f s x)
theorem for_fold {S A R : Type} {L : Nat → Int → S → Option R} {l : List A} (f : S → A → S) (fin : S → R) (I : Nat → S → Prop)
    (hs : ∀ m i s, (h : i < l.length) → I i s → L (m + 1) (i : Int) s = L m ((i + 1 : Nat) : Int) (f s l[i]) ∧ I (i + 1) (f s l[i]))
    (he : ∀ m s, I l.length s → L (m + 1) (l.length : Int) s = some (fin s)) (m : Nat) (s : S) (hm : l.length < m) (h0 : I 0 s) :
    L m 0 s = some (fin (l.foldl f s)) := by
  have := for_run0 (L := L) (l := l) (fun s x => .inl (f s x)) fin I (fun m i s h hi => ⟨(hs m i s h hi).1, fun s' e => by
    obtain rfl := Sum.inl.inj e
    exact (hs m i s h hi).2⟩) he m s hm h0
  rw [runL_fold] at this
  exact this
theorem denEq_iff : ∀ {t : Ty} {a b : den t}, eqTy t = true → (denEq t a b = true ↔ a = b)
  | .int _, a, b, _ => by simp [denEq]
  | .bool, a, b, _ => by
    show boolEq a b = true ↔ a = b
    cases a <;> cases b <;> simp [boolEq]
  | .str, a, b, _ => by
    show (a == b) = true ↔ a = b
    simp
  | .unit, a, b, _ => by simp [denEq]
  | .pair s t, a, b, h => by
    simp only [eqTy, Bool.and_eq_true] at h
    simp only [denEq, Bool.and_eq_true]
    rw [denEq_iff h.1, denEq_iff h.2]
    exact Prod.ext_iff.symm
  | .arr _ _, _, _, h | .sl _ _, _, _, h | .ptr _ _, _, _, h | .ref _ _, _, _, h | .map _ _ _, _, _, h | .hole _, _, _, h | .raw _ _, _, _, h | .nils, _, _, h | .nilp, _, _, h => by simp [eqTy] at h
theorem dec_of {p : Prop} [Decidable p] {b : Bool} (h : b = true ↔ p) : b = decide p := by
  cases b with
  | true => simp [h.1 rfl]
  | false => symm; simp; exact fun hp => by have := h.2 hp; cases this
instance decItem : DecidableEq TItem :=
  @instDecidableEqProd TId _ _ (@instDecidableEqProd Int _ _ (@instDecidableEqProd Int _ _ (@instDecidableEqProd TChar _ _ (@instDecidableEqProd TChar _ _ (@instDecidableEqProd Bool _ _ (@instDecidableEqProd Bool _ _ (inferInstance : DecidableEq (List UInt8 × Unit))))))))
@[simp] theorem eqI (a b : TId) : denEq (.pair (.int .i64) (.pair (.int .i64) .unit)) a b = decide (a = b) := dec_of (denEq_iff rfl)
theorem eqItem (a b : TItem) : denEq (.pair (.pair (.int .i64) (.pair (.int .i64) .unit)) (.pair (.int .i64) (.pair (.int .i64) (.pair (.pair (.pair (.int .i64) (.pair (.int .i64) .unit)) (.pair (.int .i64) .unit)) (.pair (.pair (.pair (.int .i64) (.pair (.int .i64) .unit)) (.pair (.int .i64) .unit)) (.pair .bool (.pair .bool (.pair .str .unit)))))))) a b = decide (a = b) := dec_of (denEq_iff rfl)
def mk (x : TItem) : TRun := (x, ())
theorem mk1 (x : TItem) : (mk x).1 = x := rfl
structure Sz (n : Nat) (l : List TItem) : Prop where
  wf : AllWF l
  few : (flatC l).length ≤ n
theorem len_le : ∀ {l : List TItem}, AllWF l → l.length ≤ (flatC l).length
  | [], _ => by simp
  | r :: l, h => by
    have h1 := (h r (by simp)).chs_len
    have h2 := (h r (by simp)).pos
    have h3 := len_le (l := l) (fun x hx => h x (by simp [hx]))
    rw [flatC_cons, List.length_append, List.length_cons]
    omega
theorem Sz.len {n : Nat} {l : List TItem} (h : Sz n l) : l.length ≤ n := Nat.le_trans (len_le h.wf) h.few
theorem getM {l : List TItem} {i : Nat} (h : i < l.length) : List.getD (l.map mk) (Int.toNat (i : Int)) zRun = mk l[i] := by
  rw [getD_of (by simpa using h), List.getElem_map]
theorem getO {l : List Ch} {i : Nat} (h : i < l.length) : List.getD (l.map one) (Int.toNat (i : Int)) zItem = one l[i] := by
  rw [getD_of (by simpa using h), List.getElem_map]
theorem WFr.lt {x : TItem} (h : WFr x) : 1 ≤ iln x ∧ iln x ≤ 64 ∧ 0 ≤ ifr x ∧ ifr x ≤ 63 := by
  have := h.pos; have := h.from0; have := h.le
  omega
end Go.Proofs.Ythlpjdjipchdkaa.E

namespace Go.Proofs.Ythlpjdjipchdkaa.E
open Go
set_option linter.unusedSimpArgs false
set_option linter.unusedVariables false
theorem foldl_sum (g : TItem → Int) : ∀ (l : List TItem) (s : Int), l.foldl (fun s x => s + g x) s = s + (l.map g).sum
  | [], s => by simp
  | x :: l, s => by rw [List.foldl_cons, foldl_sum g l, List.map_cons, List.sum_cons]; omega
theorem F_runsRowLen_eq (k : Nat) {l : List TItem} (h : Sz 9000 l) (hk : 10000 ≤ k := by omega) : F_runsRowLen (k + 1) (l.map mk, ()) = some ((((flatC l).length : Int), ()), ()) := by
  rw [F_runsRowLen_step]
  have hl := h.len
  have key := for_fold (L := fun m i s => L_runsRowLen_0 k (l.map mk) (((l.map mk).length : Nat) : Int) m (s, (i, ()))) (l := l) (fun s x => s + iln x) (fun s => .brk (s, ((l.length : Int), ())))
    (fun i s => 0 ≤ s ∧ s ≤ 64 * i) (fun m i s hi hI => by
      have hw := (h.wf l[i] (by simp)).lt
      have e : 0 ≤ s + iln l[i] ∧ s + iln l[i] ≤ 64 * ((i + 1 : Nat) : Int) := by omega
      refine ⟨?_, e⟩
      show L_runsRowLen_0 _ _ _ _ _ = _
      rw [L_runsRowLen_0_step, List.length_map, br_t (i_lt hi), br_t (i_in hi), getM hi, i_nx (by omega), mk1]
      rw [wr (by show _ ∧ s + iln l[i] < _; constructor <;> (try show _ ≤ s + iln l[i]) <;> omega)]) (fun m s hI => by
      show L_runsRowLen_0 _ _ _ _ _ = _
      rw [L_runsRowLen_0_step, List.length_map, br_f (i_ge _)]) k 0 (by omega) (by omega)
  dsimp only at key ⊢
  rw [key]
  simp only [bdL_b]
  rw [foldl_sum iln, flatC_len h.wf]
  simp
def liveN (r : TItem) : Int := if igo r || imk r then 0 else iln r
theorem live_len : ∀ {l : List TItem}, AllWF l → (l.map liveN).sum = (((flatC l).filter liveB).length : Nat)
  | [], _ => rfl
  | r :: l, h => by
    have hr := h r (by simp)
    rw [List.map_cons, List.sum_cons, live_len (l := l) (fun x hx => h x (by simp [hx])), flatC_cons, List.filter_append, List.length_append]
    have e := congrArg List.length (chT_live (iop r) (igo r) (imk r) (ifr r) (itx r))
    rw [List.length_map] at e
    unfold chs
    rw [e, Int.natCast_add]
    congr 1
    unfold liveN
    by_cases hh : igo r = true ∨ imk r = true
    · rw [if_pos hh, if_pos (by simpa using hh)]; rfl
    · rw [if_neg hh, if_neg (by simpa using hh), hr.len]
theorem F_runsrunlive_eq (k : Nat) (x : TItem) : F_runsrunlive (k + 1) (mk x) = some ((liveN x, ()), ()) := by
  rw [F_runsrunlive_step]
  unfold liveN
  show br (cond (igo x) true (imk x)) _ (some ((iln x, ()), ())) = _
  rw [cond_t]
  cases (igo x || imk x) <;> rfl
theorem F_runsRowLive_eq (k : Nat) {l : List TItem} (h : Sz 9000 l) (hk : 10000 ≤ k := by omega) : F_runsRowLive (k + 2) (l.map mk, ()) = some (((((flatC l).filter liveB).length : Int), ()), ()) := by
  rw [F_runsRowLive_step]
  have hl := h.len
  have key := for_fold (L := fun m i s => L_runsRowLive_0 (k + 1) (l.map mk) (((l.map mk).length : Nat) : Int) m (s, (i, ()))) (l := l) (fun s x => s + liveN x) (fun s => .brk (s, ((l.length : Int), ())))
    (fun i s => 0 ≤ s ∧ s ≤ 64 * i) (fun m i s hi hI => by
      have hw := (h.wf l[i] (by simp)).lt
      have hw2 : 0 ≤ liveN l[i] ∧ liveN l[i] ≤ 64 := by
        unfold liveN
        split <;> omega
      have e : 0 ≤ s + liveN l[i] ∧ s + liveN l[i] ≤ 64 * ((i + 1 : Nat) : Int) := by omega
      refine ⟨?_, e⟩
      show L_runsRowLive_0 _ _ _ _ _ = _
      rw [L_runsRowLive_0_step, List.length_map, br_t (i_lt hi), br_t (i_in hi), getM hi, i_nx (by omega), F_runsrunlive_eq, bd_s]
      rw [wr (by dsimp only; omega)]) (fun m s hI => by
      show L_runsRowLive_0 _ _ _ _ _ = _
      rw [L_runsRowLive_0_step, List.length_map, br_f (i_ge _)]) (k + 1) 0 (by omega) (by omega)
  dsimp only at key ⊢
  rw [key]
  simp only [bdL_b]
  rw [foldl_sum liveN, live_len h.wf]
  simp
theorem foldl_app : ∀ (l : List TItem) (s : List TItem), l.foldl (fun s x => s ++ [x]) s = s ++ l
  | [], s => by simp
  | x :: l, s => by rw [List.foldl_cons, foldl_app l]; simp
theorem F_runsRowRuns_eq (k : Nat) {l : List TItem} (h : Sz 9000 l) (hk : 10000 ≤ k := by omega) : F_runsRowRuns (k + 1) (l.map mk, ()) = some ((l, ()), ()) := by
  rw [F_runsRowRuns_step]
  have hl := h.len
  have key := for_fold (L := fun m i s => L_runsRowRuns_0 k (l.map mk) (((l.map mk).length : Nat) : Int) m (s, (i, ()))) (l := l) (fun s x => s ++ [x]) (fun s => .brk (s, ((l.length : Int), ())))
    (fun i s => s.length = i) (fun m i s hi hI => by
      refine ⟨?_, by simp [hI]⟩
      show L_runsRowRuns_0 _ _ _ _ _ = _
      rw [L_runsRowRuns_0_step, List.length_map, br_t (i_lt hi), br_t (i_in hi), getM hi, i_nx (by omega), mk1, br_t (by simp; omega)]) (fun m s hI => by
      show L_runsRowRuns_0 _ _ _ _ _ = _
      rw [L_runsRowRuns_0_step, List.length_map, br_f (i_ge _)]) k [] (by omega) rfl
  dsimp only at key ⊢
  rw [key]
  simp only [bdL_b]
  rw [foldl_app]
  rfl
theorem F_runsrunhas_eq (k : Nat) (x : TItem) (c : TChar) (h : WFr x) : F_runsrunhas (k + 1) (mk x) c = some ((hasB x c.1 c.2.1, ()), ()) := by
  rw [F_runsrunhas_step]
  have := h.lt
  have e : IntKind.wrap IntKind.i64 ((mk x).1.2.1 + (mk x).1.2.2.1) = ifr x + iln x := wr (by show _ ≤ ifr x + iln x ∧ ifr x + iln x < _; omega)
  rw [e]
  simp only [eqI, cond_f]
  rfl
theorem run_find (o : TId) (j : Int) : ∀ (l : List TItem) (n : Nat), AllWF l →
    (findL o j l n = none → ∃ s : Int, runL (R := LO (Int × Bool × Unit) (Int × Bool × TId) Unit) (fun (s : Int) x => if hasB x o j = true then .inr (.ret (IntKind.wrap (IntKind.i64) ((IntKind.wrap (IntKind.i64) (s + j)) - ifr x), (true, ())) ()) else .inl (s + iln x)) (n : Int) l = .inl s) ∧
    (∀ p, findL o j l n = some p → n + 64 * l.length ≤ 1000000 → runL (R := LO (Int × Bool × Unit) (Int × Bool × TId) Unit) (fun (s : Int) x => if hasB x o j = true then .inr (.ret (IntKind.wrap (IntKind.i64) ((IntKind.wrap (IntKind.i64) (s + j)) - ifr x), (true, ())) ()) else .inl (s + iln x)) (n : Int) l = .inr (.ret ((p : Int), (true, ())) ()))
  | [], n, _ => ⟨fun _ => ⟨_, rfl⟩, fun p h => by cases h⟩
  | r :: l, n, hw => by
    have hr := hw r (by simp)
    have hp := hr.lt
    have hle := hr.le
    by_cases hh : hasB r o j = true
    · rw [findL, if_pos hh]
      refine ⟨fun h => (by cases h), fun p h hn => ?_⟩
      obtain rfl := Option.some.inj h
      rw [runL, if_pos hh]
      simp only [hasB, Bool.and_eq_true, decide_eq_true_eq] at hh
      simp only [List.length_cons] at hn
      rw [wr (x := (n : Int) + j) (by omega), wr (by omega)]
      have e : (n : Int) + j - ifr r = ((n + (j - ifr r).toNat : Nat) : Int) := by omega
      rw [e]
    · have hh' : hasB r o j = false := by simpa using hh
      rw [findL, if_neg hh]
      obtain ⟨g1, g2⟩ := run_find o j l (n + (iln r).toNat) (fun x hx => hw x (by simp [hx]))
      have e : ((n + (iln r).toNat : Nat) : Int) = n + iln r := by omega
      rw [e] at g1 g2
      simp only [runL, if_neg hh]
      exact ⟨g1, fun p h hn => g2 p h (by simp only [List.length_cons] at hn; omega)⟩
def ansF : Option Nat → Int × Bool × Unit
  | some p => ((p : Int), (true, ()))
  | none => (0, (false, ()))
theorem F_runsRowFind_eq (k : Nat) {l : List TItem} (h : Sz 9000 l) (c : TChar) (hk : 10000 ≤ k := by omega) : F_runsRowFind (k + 2) (l.map mk, ()) c = some (ansF ((flatC l).findIdx? (keyB c.1 c.2.1)), ()) := by
  rw [F_runsRowFind_step]
  have hl := h.len
  have key := for_run0 (L := fun m i (s : Int) => L_runsRowFind_0 (k + 1) c (l.map mk) (((l.map mk).length : Nat) : Int) m (0, (false, (s, (i, ()))))) (l := l)
    (fun (s : Int) x => if hasB x c.1 c.2.1 = true then .inr (.ret (IntKind.wrap (IntKind.i64) ((IntKind.wrap (IntKind.i64) (s + c.2.1)) - ifr x), (true, ())) ()) else .inl (s + iln x)) (fun s => .brk (0, (false, (s, ((l.length : Int), ())))))
    (fun i s => 0 ≤ s ∧ s ≤ 64 * i) (fun m i s hi hI => by
      have hw := (h.wf l[i] (by simp)).lt
      constructor
      · show L_runsRowFind_0 _ _ _ _ _ _ = _
        rw [L_runsRowFind_0_step, List.length_map, br_t (i_lt hi), br_t (i_in hi), getM hi, i_nx (by omega), F_runsrunhas_eq _ _ _ (h.wf l[i] (by simp)), bd_s]
        cases hasB l[i] c.1 c.2.1 with
        | true => rfl
        | false =>
          simp only [br_false, Bool.false_eq_true, if_false, mk1]
          rw [wr (by show _ ≤ s + iln l[i] ∧ s + iln l[i] < _; omega)]
      · intro s' e
        split at e
        · cases e
        · obtain rfl := Sum.inl.inj e
          omega) (fun m s hI => by
      show L_runsRowFind_0 _ _ _ _ _ _ = _
      rw [L_runsRowFind_0_step, List.length_map, br_f (i_ge _)]) (k + 1) 0 (by omega) (by omega)
  dsimp only at key ⊢
  rw [key]
  have hs := findL_spec c.1 c.2.1 (n := 0) h.wf
  obtain ⟨g1, g2⟩ := run_find c.1 c.2.1 l 0 h.wf
  cases hf : (flatC l).findIdx? (keyB c.1 c.2.1) with
  | none =>
    rw [hf] at hs
    obtain ⟨s, e⟩ := g1 hs
    rw [show ((0 : Nat) : Int) = 0 from rfl] at e
    rw [e]; rfl
  | some p =>
    rw [hf] at hs
    have e := g2 p (by rw [hs]; simp) (by omega)
    rw [show ((0 : Nat) : Int) = 0 from rfl] at e
    rw [e]; rfl
end Go.Proofs.Ythlpjdjipchdkaa.E

namespace Go.Proofs.Ythlpjdjipchdkaa.E
open Go
set_option linter.unusedSimpArgs false
set_option linter.unusedVariables false
theorem F_ref10RowFind_eq (k : Nat) (l : List Ch) (hl : l.length ≤ 9000) (c : TChar) (hk : 10000 ≤ k := by omega) : F_ref10RowFind (k + 1) (l.map one, ()) c = some (ansF (l.findIdx? (keyB c.1 c.2.1)), ()) := by
  rw [F_ref10RowFind_step]
  have key : ∀ m i, i ≤ l.length → l.length - i < m → (∃ b, L_ref10RowFind_0 k (l.map one, ()) c m (0, (false, ((i : Int), ()))) = some (.brk b) ∧ (l.drop i).findIdx? (keyB c.1 c.2.1) = none) ∨
      (∃ q, L_ref10RowFind_0 k (l.map one, ()) c m (0, (false, ((i : Int), ()))) = some (.ret (((i + q : Nat) : Int), (true, ())) ()) ∧ (l.drop i).findIdx? (keyB c.1 c.2.1) = some q) := by
    intro m
    induction m with
    | zero => intro i _ h; omega
    | succ m ih =>
      intro i h1 h2
      rw [L_ref10RowFind_0_step]
      by_cases h : i < l.length
      · rw [List.length_map, br_t (i_lt h), br_t (i_in h), getO h, i_nx (by omega), List.drop_eq_getElem_cons h, List.findIdx?_cons]
        have e1 : (one l[i]).1 = l[i].op := rfl
        have e2 : (one l[i]).2.1 = l[i].i := rfl
        rw [e1, e2]
        simp only [eqI, boolEq_t, cond_f, Bool.true_and]
        by_cases ho : l[i].op = c.1
        · by_cases hi : l[i].i = c.2.1
          · right
            refine ⟨0, ?_, ?_⟩
            · simp [ho, hi, i_in h]
            · simp [keyB, ho, hi]
          · rcases ih (i + 1) (by omega) (by omega) with ⟨b, e, e2⟩ | ⟨q, e, e2⟩
            · left
              refine ⟨b, ?_, ?_⟩
              · rw [br_t (by simp [ho]), br_t (i_in h), br_f (by simp [hi])]; exact e
              · simp [keyB, ho, hi, e2]
            · right
              refine ⟨q + 1, ?_, ?_⟩
              · rw [br_t (by simp [ho]), br_t (i_in h), br_f (by simp [hi]), e]
                congr 3; omega
              · simp [keyB, ho, hi, e2]
        · rcases ih (i + 1) (by omega) (by omega) with ⟨b, e, e2⟩ | ⟨q, e, e2⟩
          · left
            refine ⟨b, ?_, ?_⟩
            · rw [br_f (by simp [ho])]; exact e
            · simp [keyB, ho, e2]
          · right
            refine ⟨q + 1, ?_, ?_⟩
            · rw [br_f (by simp [ho]), e]
              congr 3; omega
            · simp [keyB, ho, e2]
      · have : i = l.length := by omega
        subst this
        left
        rw [List.length_map, br_f (i_ge _)]
        exact ⟨_, rfl, by simp⟩
  rcases key k 0 (by omega) (by omega) with ⟨b, e, e2⟩ | ⟨q, e, e2⟩
  · rw [show ((0 : Nat) : Int) = 0 from rfl] at e
    rw [e]
    rw [List.drop_zero] at e2
    rw [e2]; rfl
  · rw [show ((0 : Nat) : Int) = 0 from rfl] at e
    rw [e]
    rw [List.drop_zero] at e2
    rw [e2]; simp [ansF]
theorem F_ref00SameItems_eq (k : Nat) (a b : List TItem) (hl : a.length ≤ 9000) (hk : 10000 ≤ k := by omega) : F_ref00SameItems (k + 1) a b = some ((decide (a = b), ()), ()) := by
  rw [F_ref00SameItems_step]
  by_cases hab : a.length = b.length
  · rw [br_f (by simp [hab])]
    have key : ∀ m i, i ≤ a.length → a.length - i < m → (∃ x, L_ref00SameItems_0 k a b m (false, ((i : Int), ())) = some (.brk x) ∧ a.drop i = b.drop i) ∨
        (L_ref00SameItems_0 k a b m (false, ((i : Int), ())) = some (.ret (false, ()) ()) ∧ a.drop i ≠ b.drop i) := by
      intro m
      induction m with
      | zero => intro i _ h; omega
      | succ m ih =>
        intro i h1 h2
        rw [L_ref00SameItems_0_step]
        by_cases h : i < a.length
        · rw [br_t (i_lt h), br_t (i_in h), br_t (i_in (by omega)), getD_of h, getD_of (l := b) (by omega), i_nx (by omega), List.drop_eq_getElem_cons h, List.drop_eq_getElem_cons (l := b) (by omega), eqItem]
          by_cases he : a[i] = b[i]'(by omega)
          · rw [br_f (by simp [he])]
            rcases ih (i + 1) (by omega) (by omega) with ⟨x, e, e2⟩ | ⟨e, e2⟩
            · exact .inl ⟨x, e, by rw [he, e2]⟩
            · exact .inr ⟨e, fun hh => e2 (List.cons.inj hh).2⟩
          · rw [br_t (by simp [he])]
            exact .inr ⟨rfl, fun hh => he (List.cons.inj hh).1⟩
        · have : i = a.length := by omega
          subst this
          rw [br_f (i_ge _)]
          exact .inl ⟨_, rfl, by rw [List.drop_length, hab, List.drop_length]⟩
    rcases key k 0 (by omega) (by omega) with ⟨b, e, e2⟩ | ⟨e, e2⟩
    · rw [show ((0 : Nat) : Int) = 0 from rfl] at e
      simp only [List.drop_zero] at e2
      rw [e]; simp [e2]
    · rw [show ((0 : Nat) : Int) = 0 from rfl] at e
      simp only [List.drop_zero] at e2
      rw [e]; simp [e2]
  · rw [br_t (by simp only [bne_iff_ne, ne_eq]; omega)]
    have : a ≠ b := fun h => hab (by rw [h])
    simp [this]
def addB (s : List UInt8) (c : Ch) : List UInt8 := if liveB c then s ++ [c.b] else s
theorem foldl_addB : ∀ (l : List Ch) (s : List UInt8), l.foldl addB s = s ++ (l.filter liveB).map (·.b)
  | [], s => by simp
  | c :: l, s => by
    rw [List.foldl_cons, foldl_addB l, List.filter_cons, addB]
    split <;> simp
theorem F_ref10RowText_eq (k : Nat) (l : List Ch) (hl : l.length ≤ 9000) (hk : 10000 ≤ k := by omega) : F_ref10RowText (k + 1) (l.map one, ()) = some ((((l.filter liveB).map (·.b)), ()), ()) := by
  rw [F_ref10RowText_step]
  have key := for_fold (L := fun m i s => L_ref10RowText_0 k (l.map one, ()) m (s, (i, ()))) (l := l) addB (fun s => .brk (s, ((l.length : Int), ())))
    (fun i s => s.length ≤ i) (fun m i s hi hI => by
      constructor
      · show L_ref10RowText_0 _ _ _ _ = _
        rw [L_ref10RowText_0_step, List.length_map, br_t (i_lt hi), br_t (i_in hi), getO hi, i_nx (by omega)]
        have e1 : (one l[i]).2.2.2.2.2.1 = l[i].gone := rfl
        have e2 : (one l[i]).2.2.2.2.2.2.1 = l[i].mark := rfl
        have e3 : (one l[i]).2.2.2.2.2.2.2.1 = [l[i].b] := rfl
        rw [e1, e2, e3]
        unfold addB liveB
        cases l[i].gone <;> cases l[i].mark <;> simp [i_in hi] <;> exact br_t (by simp; omega)
      · unfold addB
        split
        · rw [List.length_append, List.length_singleton]; omega
        · omega) (fun m s hI => by
      show L_ref10RowText_0 _ _ _ _ = _
      rw [L_ref10RowText_0_step, List.length_map, br_f (i_ge _)]) k [] (by omega) (by simp)
  try dsimp only at key ⊢
  rw [key]
  simp only [bdL_b]
  rw [foldl_addB]
  rfl
theorem run_at {Q X B : Type} (g : TItem → LO Q X B) : ∀ (l : List TItem) (n : Int),
    (atL l n = none → ∃ s, runL (fun (s : Int) x => if s < iln x then Sum.inr (g (iop x, ifr x + s, 1, zC, zC, igo x, imk x, ((itx x).take (s.toNat + 1)).drop s.toNat, ())) else .inl (s - iln x)) n l = .inl s) ∧
    (∀ y, atL l n = some y → runL (fun (s : Int) x => if s < iln x then Sum.inr (g (iop x, ifr x + s, 1, zC, zC, igo x, imk x, ((itx x).take (s.toNat + 1)).drop s.toNat, ())) else .inl (s - iln x)) n l = .inr (g y))
  | [], n => ⟨fun _ => ⟨_, rfl⟩, fun y h => by cases h⟩
  | r :: l, n => by
    rw [atL, runL]
    by_cases h : n < iln r
    · rw [if_pos h, if_pos h]
      exact ⟨fun h => (by cases h), fun y h => by rw [← Option.some.inj h]⟩
    · rw [if_neg h, if_neg h]
      exact run_at g l (n - iln r)
theorem L_at_in (k : Nat) (s : Int) (x : TItem) (h : WFr x) (h0 : 0 ≤ s) (h1 : s < iln x) : L_runsRowAt_2008 k s (mk x) () 1 (x, ()) = some (.brk ((iop x, ifr x + s, 1, zC, zC, igo x, imk x, ((itx x).take (s.toNat + 1)).drop s.toNat, ()), ())) := by
  have hl := h.len
  have hp := h.lt
  have hL := h.left
  have hR := h.right
  obtain ⟨op, fr, ln, L, R, g, m, t, u⟩ := x
  simp only [iop, ifr, iln, igo, imk, itx, mk] at *
  subst hL hR
  rw [L_runsRowAt_2008_step, br_t (by rw [wr (by omega)]; simp [leB]; omega), wr (x := s + 1) (by omega), wr (by dsimp only; omega)]
  have : (s + 1).toNat = s.toNat + 1 := by omega
  rw [this]
def ansA : Option Ch → TItem × Bool × Unit
  | some c => (one c, (true, ()))
  | none => (zItem, (false, ()))
theorem F_runsRowAt_eq (k : Nat) {l : List TItem} (h : Sz 9000 l) (n : Int) (hn : n < 9223372036854775808) (hk : 10000 ≤ k := by omega) : F_runsRowAt (k + 1) (l.map mk, ()) n = some (ansA (if n < 0 then none else (flatC l)[n.toNat]?), ()) := by
  rw [F_runsRowAt_step]
  have hl := h.len
  by_cases h0 : n < 0
  · rw [br_t (by simpa using h0), if_pos h0]; rfl
  rw [br_f (by simpa using h0), if_neg h0]
  have key := for_run0 (L := fun m i (s : Int) => L_runsRowAt_0 k () (l.map mk) (((l.map mk).length : Nat) : Int) m (s, (false, (i, zRun)))) (l := l)
    (fun (s : Int) x => if s < iln x then .inr (.ret ((iop x, ifr x + s, 1, zC, zC, igo x, imk x, ((itx x).take (s.toNat + 1)).drop s.toNat, ()), (true, ())) ((iop x, ifr x + s, 1, zC, zC, igo x, imk x, ((itx x).take (s.toNat + 1)).drop s.toNat, ()), ())) else .inl (s - iln x)) (fun s => .brk (s, (false, ((l.length : Int), zRun))))
    (fun i s => 0 ≤ s ∧ s < 9223372036854775808) (fun m i s hi hI => by
      have hw := (h.wf l[i] (by simp)).lt
      constructor
      · show L_runsRowAt_0 _ _ _ _ _ (s, (false, ((i : Int), (zItem, ())))) = _
        rw [L_runsRowAt_0_step, List.length_map, br_t (i_lt hi), br_t (i_in hi), getM hi, i_nx (by omega)]
        by_cases hs : s < iln l[i]
        · rw [br_t (decide_eq_true (show s < (mk l[i]).1.2.2.1 from hs)), if_pos hs]
          have e := L_at_in k s l[i] (h.wf l[i] (by simp)) hI.1 hs
          rw [mk1, e]; rfl
        · rw [br_f (decide_eq_false (show ¬ s < (mk l[i]).1.2.2.1 from hs)), if_neg hs, mk1]
          rw [wr (by show _ ≤ s - iln l[i] ∧ s - iln l[i] < _; omega)]
          rfl
      · intro s' e
        split at e
        · cases e
        · obtain rfl := Sum.inl.inj e
          omega) (fun m s hI => by
      show L_runsRowAt_0 _ _ _ _ _ (s, (false, ((l.length : Int), (zItem, ())))) = _
      rw [L_runsRowAt_0_step, List.length_map, br_f (i_ge _)]; rfl) k n (by omega) (by omega)
  try dsimp only at key ⊢
  rw [key]
  have hs := atL_spec (n := n) h.wf (by omega)
  obtain ⟨g1, g2⟩ := run_at (Q := TItem × Bool × Unit) (X := Int × Bool × Int × TRun) (B := TRun) (fun y => .ret (y, (true, ())) (y, ())) l n
  cases hf : (flatC l)[n.toNat]? with
  | none =>
    rw [hf] at hs
    obtain ⟨s, e⟩ := g1 hs
    rw [e]; rfl
  | some p =>
    rw [hf] at hs
    have e := g2 _ hs
    rw [e]; rfl
end Go.Proofs.Ythlpjdjipchdkaa.E

namespace Go.Proofs.Ythlpjdjipchdkaa.E
open Go
set_option linter.unusedSimpArgs false
set_option linter.unusedVariables false
theorem F_runsrunparts_eq (k : Nat) (x : TItem) (h : WFr x) (n : Int) (h0 : 0 ≤ n) (h1 : n ≤ iln x) : F_runsrunparts (k + 1) (mk x) n = some ((mk (partA x n), (mk (partB x n), ())), ()) := by
  have hl := h.len
  have hp := h.lt
  obtain ⟨op, fr, ln, L, R, g, m, t, u⟩ := x
  simp only [iop, ifr, iln, igo, imk, itx] at hl hp h1
  have h2 : (((true && leB n t.length) && true) : Bool) = true := by simp [leB]; omega
  have h3 : ((true && leB n t.length) : Bool) = true := by simp [leB]; omega
  rw [F_runsrunparts_step]
  simp only [mk]
  rw [L_runsrunparts_2002_step, br_t (by exact h2)]
  simp only [bdL_b]
  rw [L_runsrunparts_2003_step, br_t (by exact h3)]
  simp only [bdL_b]
  rw [L_runsrunparts_2004_step]
  simp only [bdL_b]
  rw [wr (x := fr + n) (by omega), wr (x := ln - n) (by omega)]
  rfl
theorem F_runsrunjoins_eq (k : Nat) (a b : TItem) (ha : WFr a) (hb : WFr b) : F_runsrunjoins (k + 1) (mk a) (mk b) = some ((joinsB a b, ()), ()) := by
  rw [F_runsrunjoins_step]
  have := ha.lt
  have e : IntKind.wrap IntKind.i64 ((mk a).1.2.1 + (mk a).1.2.2.1) = ifr a + iln a := wr (by show _ ≤ ifr a + iln a ∧ ifr a + iln a < _; omega)
  rw [e]
  unfold joinsB
  simp only [mk1, eqI, cond_f]
  rw [show (decide (ifr a + iln a = ifr b)) = (ifr a + iln a == b.2.1) from rfl]
theorem last_ix {α : Type} {d : List α} {a : α} (h : d.length < 4611686018427387904) : IntKind.wrap IntKind.i64 ((((d ++ [a]).length : Nat) : Int) - (1 : Int)) = ((d.length : Nat) : Int) := by
  rw [wr (by simp; omega)]; simp
theorem last_in {α : Type} {d : List α} {a : α} : inB ((d.length : Nat) : Int) (d ++ [a]).length = true := i_in (by simp)
theorem last_get {α : Type} {d : List α} {a z : α} : List.getD (d ++ [a]) (Int.toNat ((d.length : Nat) : Int)) z = a := by
  simp [List.getD]
theorem last_set {α : Type} {d : List α} {a b : α} : List.set (d ++ [a]) (Int.toNat ((d.length : Nat) : Int)) b = d ++ [b] := by
  simp [List.set_append]
theorem nil_or_snoc {α : Type} (l : List α) : l = [] ∨ ∃ d a, l = d ++ [a] := by
  rcases List.eq_nil_or_concat l with h | ⟨d, a, h⟩
  · exact .inl h
  · exact .inr ⟨d, a, by rw [h, List.concat_eq_append]⟩
theorem map_snoc (d : List TItem) (a : TItem) : (d ++ [a]).map mk = d.map mk ++ [mk a] := by simp
theorem L_mend_in (k : Nat) (d : List TItem) (a r : TItem) (hd : d.length ≤ 9000) (ha : 0 ≤ iln a ∧ iln a ≤ 9000) (hta : (itx a).length ≤ 9000) (hr : WFr r) :
    L_runsRowmend_1006 k () (mk r) (((((d ++ [a]).map mk).length : Nat)) : Int) true 1 ((d ++ [a]).map mk, ()) = some (.ext 1 ((d ++ [joinI a r]).map mk, ())) := by
  have hp := hr.lt
  have hrl := hr.len
  have e : ((d.map mk).length : Nat) = d.length := by simp
  rw [map_snoc, L_runsRowmend_1006_step, br_true, last_ix (by rw [e]; omega)]
  rw [br_t last_in, br_t last_in]
  rw [last_get]
  simp only [last_set]
  rw [br_t last_in]
  simp only [last_get]
  refine Eq.trans (br_t (decide_eq_true (show (itx a).length + (itx r).length ≤ 9223372036854775807 by omega))) ?_
  rw [br_t last_in]
  have e2 : IntKind.wrap IntKind.i64 ((mk a).1.2.2.1 + (mk r).1.2.2.1) = iln a + iln r := wr (by show _ ≤ iln a + iln r ∧ iln a + iln r < _; omega)
  rw [e2, map_snoc]
  rfl
theorem WFr.tx {x : TItem} (h : WFr x) : (itx x).length ≤ 64 := by have := h.len; have := h.lt; omega
theorem mendL_take {l out : List TItem} (hw : ∀ x ∈ out, WFr x) (hl : ∀ x ∈ l, WFr x) (hn : NJ out) : ∀ x ∈ mendL out l, WFr x := (mendL_spec hw hl hn).2.1
theorem mendF_len (out : List TItem) (r : TItem) : (mendF out r).length ≤ out.length + 1 := by
  unfold mendF
  cases h : out.getLast? with
  | none => simp
  | some a =>
    simp only
    split <;> simp
theorem F_runsRowmend_eq (k : Nat) {l : List TItem} (h : Sz 9000 l) (u : Unit) (hk : 10000 ≤ k := by omega) : F_runsRowmend (k + 2) (l.map mk, u) = some ((), (((mendL [] l).map mk, u), ())) := by
  rw [F_runsRowmend_step]
  have hl := h.len
  have key := for_fold (L := fun m i (s : List TItem) => L_runsRowmend_0 (k + 1) (l.map mk) (((l.map mk).length : Nat) : Int) m (s.map mk, (i, ()))) (l := l) mendF (fun s => .brk (s.map mk, ((l.length : Int), ())))
    (fun i s => AllWF s ∧ NJ s ∧ s.length ≤ i) (fun m i s hi hI => by
      have hw := h.wf l[i] (by simp)
      obtain ⟨hI1, hI2, hI3⟩ := hI
      obtain ⟨q1, q2, q3⟩ := mendF_spec hI1 hw hI2
      refine ⟨?_, q2, q3, Nat.le_trans (mendF_len _ _) (by omega)⟩
      show L_runsRowmend_0 _ _ _ _ _ = _
      rw [L_runsRowmend_0_step, List.length_map, br_t (i_lt hi), br_t (i_in hi), getM hi, i_nx (by omega), boolEq_t]
      rcases nil_or_snoc s with rfl | ⟨d, a, rfl⟩
      · rw [br_f (by simp), L_runsRowmend_1006_step]
        simp only [br_false, bdL_b]
        rw [br_t (by simp)]
        rfl
      · have ha : WFr a := hI1 a (by simp)
        rw [br_t (by simp), map_snoc, last_ix (by simp at hI3 ⊢; omega), br_t last_in, last_get, F_runsrunjoins_eq _ _ _ ha hw, bd_s]
        have hd : d.length ≤ 9000 := by simp at hI3; omega
        cases hj : joinsB a l[i] with
        | true =>
          have e := L_mend_in (k + 1) d a l[i] hd (by have := ha.lt; omega) (by have := ha.tx; omega) hw
          rw [map_snoc] at e
          simp only [hj] at e ⊢
          rw [e, bdL_e]
          have e3 : mendF (d ++ [a]) l[i] = d ++ [joinI a l[i]] := by
            unfold mendF
            rw [List.getLast?_concat]
            simp only [hj, if_true, List.dropLast_concat]
          rw [e3]
          rfl
        | false =>
          simp only [hj]
          rw [L_runsRowmend_1006_step]
          simp only [br_false, bdL_b]
          rw [br_t (by simp at hI3 ⊢; omega)]
          have e3 : mendF (d ++ [a]) l[i] = d ++ [a] ++ [l[i]] := by
            unfold mendF
            rw [List.getLast?_concat]
            simp only [hj, Bool.false_eq_true, if_false]
          rw [e3, map_snoc (d ++ [a]), map_snoc]
          ) (fun m s hI => by
      show L_runsRowmend_0 _ _ _ _ _ = _
      rw [L_runsRowmend_0_step, List.length_map, br_f (i_ge _)]) (k + 1) [] (by omega) ⟨fun x hx => by simp at hx, fun i hi => by simp at hi, by simp⟩
  try dsimp only at key ⊢
  rw [List.map_nil] at key
  rw [key]
  rfl
theorem F_ref10RowRuns_eq (k : Nat) {l : List TItem} (h : Sz 9000 l) (cs : List Ch) (hc : cs = flatC l) (hsm : ∀ m, AllWF (mendL [] ((cs.take m).map one))) (hk : 10000 ≤ k := by omega) : F_ref10RowRuns (k + 2) (cs.map one, ()) = some ((mendL [] (cs.map one), ()), ()) := by
  rw [F_ref10RowRuns_step]
  have hl : cs.length ≤ 9000 := by rw [hc]; exact h.few
  have key := for_fold (L := fun m i (s : List TItem) => L_ref10RowRuns_0 (k + 1) (cs.map one, ()) m (s, (i, ()))) (l := cs) (fun s c => mendF s (one c)) (fun s => .brk (s, ((cs.length : Int), ())))
    (fun i s => s = mendL [] ((cs.take i).map one) ∧ s.length ≤ i) (fun m i s hi hI => by
      obtain ⟨hI1, hI3⟩ := hI
      have hI0 := hsm i
      rw [← hI1] at hI0
      refine ⟨?_, ?_, Nat.le_trans (mendF_len _ _) (by omega)⟩
      rotate_left
      · have e : (cs.take (i + 1)).map one = (cs.take i).map one ++ [one cs[i]] := by
          rw [List.take_add_one, List.getElem?_eq_getElem hi, List.map_append]; rfl
        rw [e, hI1]
        unfold mendL
        rw [List.foldl_append]; rfl
      show L_ref10RowRuns_0 _ _ _ _ = _
      rw [L_ref10RowRuns_0_step, List.length_map, br_t (i_lt hi), br_t (i_in hi), getO hi, i_nx (by omega)]
      rcases nil_or_snoc s with rfl | ⟨d, a, rfl⟩
      · rw [br_f (by simp), br_t (by simp)]
        rfl
      · have ha : WFr a := hI0 a (by simp)
        have hp := ha.lt
        have htx := ha.tx
        rw [br_t (by simp), last_ix (by simp at hI3; omega), br_t last_in]
        simp only [last_get]
        have e0 : IntKind.wrap IntKind.i64 (a.2.1 + a.2.2.1) = ifr a + iln a := wr (by show _ ≤ ifr a + iln a ∧ ifr a + iln a < _; omega)
        rw [e0]
        simp only [eqI, cond_f]
        have ej : (((((decide (a.1 = (one cs[i]).1)) && (ifr a + iln a == (one cs[i]).2.1)) && (a.2.2.2.2.2.1 == (one cs[i]).2.2.2.2.2.1)) && !a.2.2.2.2.2.2.1) && !(one cs[i]).2.2.2.2.2.2.1) = joinsB a (one cs[i]) := by
          unfold joinsB
          rw [show (decide (ifr a + iln a = ifr (one cs[i]))) = (ifr a + iln a == (one cs[i]).2.1) from rfl]
        rw [ej]
        cases hj : joinsB a (one cs[i]) with
        | true =>
          simp only [br_true]
          rw [L_ref10RowRuns_2009_step, last_ix (by simp at hI3; omega), br_t last_in, br_t last_in]
          simp only [bdL_b, last_get, last_set]
          rw [L_ref10RowRuns_2010_step, last_ix (by simp at hI3; omega), br_t last_in]
          simp only [last_get]
          have e9 : decide (a.2.2.2.2.2.2.2.1.length + (one cs[i]).2.2.2.2.2.2.2.1.length ≤ 9223372036854775807) = true := decide_eq_true (show (itx a).length + 1 ≤ 9223372036854775807 by omega)
          rw [br_t e9, br_t last_in]
          simp only [bdL_b, last_set]
          have e3 : mendF (d ++ [a]) (one cs[i]) = d ++ [joinI a (one cs[i])] := by
            unfold mendF
            rw [List.getLast?_concat]
            simp only [hj, if_true, List.dropLast_concat]
          rw [e3]
          have e4 : IntKind.wrap IntKind.i64 (a.2.2.1 + 1) = iln a + iln (one cs[i]) := wr (by show _ ≤ iln a + 1 ∧ iln a + 1 < _; omega)
          rw [e4]
          rfl
        | false =>
          simp only [br_false]
          rw [br_t (by simp at hI3 ⊢; omega)]
          have e3 : mendF (d ++ [a]) (one cs[i]) = d ++ [a] ++ [one cs[i]] := by
            unfold mendF
            rw [List.getLast?_concat]
            simp only [hj, Bool.false_eq_true, if_false]
          rw [e3]) (fun m s hI => by
      show L_ref10RowRuns_0 _ _ _ _ = _
      rw [L_ref10RowRuns_0_step, List.length_map, br_f (i_ge _)]) (k + 1) [] (by omega) ⟨by simp [mendL], by simp⟩
  try dsimp only at key ⊢
  rw [key]
  simp only [bdL_b]
  rw [mendL, List.foldl_map]
end Go.Proofs.Ythlpjdjipchdkaa.E

namespace Go.Proofs.Ythlpjdjipchdkaa.E
open Go
set_option linter.unusedSimpArgs false
set_option linter.unusedVariables false
theorem one_wf {l : List TItem} (h : AllWF l) {c : Ch} (hc : c ∈ flatC l) : WFr (one c) := by
  unfold flatC at hc
  obtain ⟨y, hy, hcy⟩ := List.mem_flatten.1 hc
  obtain ⟨x, hx, rfl⟩ := List.mem_map.1 hy
  have hw := h x hx
  obtain ⟨q, hq, rfl⟩ := (mem_chT _ _ _ _ _ _).1 hcy
  have := hw.lt; have := hw.len; have := hw.le
  refine ⟨rfl, by show (1 : Int) ≤ 1; omega, ?_, ?_, fun _ => rfl, rfl, rfl⟩
  · show 0 ≤ ifr x + q; omega
  · show ifr x + q + 1 ≤ 64; omega
theorem F_ref10RowRuns_eq2 (k : Nat) {l : List TItem} (h : Sz 9000 l) (hn : NJ l) (hk : 10000 ≤ k := by omega) : F_ref10RowRuns (k + 2) ((flatC l).map one, ()) = some ((l, ()), ()) := by
  rw [F_ref10RowRuns_eq k h _ rfl]
  · rw [mend_canon h.wf (by simpa using hn)]; rfl
  · intro m
    refine mendL_take (fun x hx => by simp at hx) (fun x hx => ?_) (fun i hi => by simp at hi)
    obtain ⟨c, hc, rfl⟩ := List.mem_map.1 hx
    exact one_wf h.wf (List.mem_of_mem_take hc)
theorem set_mid {α : Type} (a : List α) (x y : α) (b : List α) : List.set (a ++ x :: b) a.length y = a ++ y :: b := by simp
theorem F_ref10RowCut_eq (k : Nat) (cs : List Ch) (hl : cs.length ≤ 9000) (c : TCut) (hk : 10000 ≤ k := by omega) : F_ref10RowCut (k + 1) (cs.map one, ()) c = some ((((cs.countP (newB c) : Nat) : Int), ()), (((cs.map (cutC c)).map one, ()), ())) := by
  rw [F_ref10RowCut_step]
  have key : ∀ m i (n : Nat), i ≤ cs.length → cs.length - i < m → n ≤ i → L_ref10RowCut_0 k () c m ((n : Int), ((i : Int), ((((cs.take i).map (cutC c) ++ cs.drop i).map one, ()), ()))) =
      some (.brk (((n + (cs.drop i).countP (newB c) : Nat) : Int), ((cs.length : Int), (((cs.map (cutC c)).map one, ()), ())))) := by
    intro m
    induction m with
    | zero => intro i n _ h; omega
    | succ m ih =>
      intro i n h1 h2 h3
      rw [L_ref10RowCut_0_step]
      have hlen : (((cs.take i).map (cutC c) ++ cs.drop i).map one).length = cs.length := by simp; omega
      rw [hlen]
      by_cases h : i < cs.length
      · rw [br_t (i_lt h), br_t (i_in h), i_nx (i := i) (by omega)]
        have hcut : (cs.take (i + 1)).map (cutC c) ++ cs.drop (i + 1) = (cs.take i).map (cutC c) ++ cutC c cs[i] :: cs.drop (i + 1) := by
          rw [List.take_add_one, List.getElem?_eq_getElem h, List.map_append, List.append_assoc]; rfl
        have hmid : (cs.take i).map (cutC c) ++ cs.drop i = (cs.take i).map (cutC c) ++ cs[i] :: cs.drop (i + 1) := by
          rw [List.drop_eq_getElem_cons h]
        have hti : ((cs.take i).map (cutC c)).length = i := by simp; omega
        have hget : List.getD (((cs.take i).map (cutC c) ++ cs.drop i).map one) (Int.toNat (i : Int)) zItem = one cs[i] := by
          rw [getD_of (by rw [hlen]; exact h), List.getElem_map]
          congr 1
          rw [List.getElem_append_right (by omega)]
          simp only [hti, Nat.sub_self, List.getElem_drop]
          rfl
        rw [hget]
        have hset : ∀ y, List.set (((cs.take i).map (cutC c) ++ cs.drop i).map one) (Int.toNat (i : Int)) y = ((cs.take i).map (cutC c)).map one ++ y :: (cs.drop (i + 1)).map one := by
          intro y
          rw [hmid, List.map_append, List.map_cons, Int.toNat_natCast]
          conv => lhs; arg 2; rw [← hti, ← List.length_map (f := one)]
          exact set_mid _ _ _ _
        rw [hset]
        have e1 : (one cs[i]).1 = cs[i].op := rfl
        have e2 : (one cs[i]).2.1 = cs[i].i := rfl
        have e3 : (one cs[i]).2.2.2.2.2.1 = cs[i].gone := rfl
        rw [e1, e2, e3]
        simp only [eqI, cond_f]
        have ek : (((decide (cs[i].op = c.1)) && decide (cs[i].i ≥ c.2.1)) && decide (cs[i].i < c.2.2.1)) = hitB c cs[i] := rfl
        rw [ek, List.drop_eq_getElem_cons h, List.countP_cons]
        have en : (hitB c cs[i] && !cs[i].gone) = newB c cs[i] := rfl
        rw [en]
        cases hn : newB c cs[i] with
        | true =>
          rw [br_true]
          have ec : cutC c cs[i] = { cs[i] with gone := true } := by
            unfold cutC
            rw [if_pos]
            rw [← en] at hn
            exact (Bool.and_eq_true _ _ ▸ hn).1
          have := ih (i + 1) (n + 1) (by omega) (by omega) (by omega)
          rw [hcut, ec, List.map_append, List.map_cons] at this
          rw [i_nx (i := n) (by omega)]
          rw [br_t (i_in h)]
          refine Eq.trans ?_ (this.trans ?_)
          · rfl
          · simp only [if_true]
            congr 4
            omega
        | false =>
          rw [br_false]
          have ec : cutC c cs[i] = cs[i] := by
            unfold cutC
            rw [← en] at hn
            split
            · rename_i hh
              rw [hh] at hn
              simp only [Bool.true_and, Bool.not_eq_false'] at hn
              rw [← hn]
            · rfl
          have := ih (i + 1) n (by omega) (by omega) (by omega)
          rw [hcut, ec] at this
          rw [this]
          simp
      · have : i = cs.length := by omega
        subst this
        rw [br_f (i_ge _)]
        simp
  have := key k 0 0 (by omega) (by omega) (by omega)
  simp only [List.take_zero, List.map_nil, List.nil_append, List.drop_zero] at this
  rw [show ((0 : Nat) : Int) = 0 from rfl] at this
  rw [this]
  simp
theorem F_runsRowoverlaps_eq (k : Nat) {l : List TItem} (h : Sz 9000 l) (x : TItem) (hx : 0 ≤ ifr x ∧ ifr x + iln x ≤ 64 ∧ 0 ≤ iln x) (hk : 10000 ≤ k := by omega) : F_runsRowoverlaps (k + 1) (l.map mk, ()) x = some ((l.any (overB x), ()), ()) := by
  rw [F_runsRowoverlaps_step]
  have hl := h.len
  have key : ∀ m i, i ≤ l.length → l.length - i < m → (∃ b, L_runsRowoverlaps_10_7_slicesIndexFuncrunsrun_0 k (l.map mk) () ((l.map mk).length : Nat) m (0, ((i : Int), (x, ()))) = some (.brk b) ∧ (l.drop i).any (overB x) = false) ∨
      (∃ q : Nat, L_runsRowoverlaps_10_7_slicesIndexFuncrunsrun_0 k (l.map mk) () ((l.map mk).length : Nat) m (0, ((i : Int), (x, ()))) = some (.ret ((q : Int), ()) (x, ())) ∧ (l.drop i).any (overB x) = true) := by
    intro m
    induction m with
    | zero => intro i _ h; omega
    | succ m ih =>
      intro i h1 h2
      rw [L_runsRowoverlaps_10_7_slicesIndexFuncrunsrun_0_step]
      by_cases hi : i < l.length
      · have hw := (h.wf l[i] (by simp)).lt
        rw [List.length_map, br_t (i_lt hi), br_t (i_in hi), getM hi, i_nx (by omega), List.drop_eq_getElem_cons hi, List.any_cons]
        have w1 : IntKind.wrap IntKind.i64 (x.2.1 + x.2.2.1) = ifr x + iln x := wr (by show _ ≤ ifr x + iln x ∧ ifr x + iln x < _; omega)
        have w2 : IntKind.wrap IntKind.i64 ((mk l[i]).1.2.1 + (mk l[i]).1.2.2.1) = ifr l[i] + iln l[i] := wr (by show _ ≤ ifr l[i] + iln l[i] ∧ ifr l[i] + iln l[i] < _; omega)
        rw [w1, w2]
        simp only [eqI, cond_f]
        have eo : ((decide ((mk l[i]).1.1 = x.1) && decide ((mk l[i]).1.2.1 < ifr x + iln x)) && decide (x.2.1 < ifr l[i] + iln l[i])) = overB x l[i] := rfl
        rw [eo]
        cases ho : overB x l[i] with
        | true => exact .inr ⟨i, rfl, rfl⟩
        | false =>
          have := ih (i + 1) (by omega) (by omega)
          rw [List.length_map] at this
          simpa using this
      · have : i = l.length := by omega
        subst this
        rw [List.length_map, br_f (i_ge _)]
        exact .inl ⟨_, rfl, by simp⟩
  rcases key k 0 (by omega) (by omega) with ⟨b, e, e2⟩ | ⟨q, e, e2⟩
  · rw [show ((0 : Nat) : Int) = 0 from rfl] at e
    rw [List.drop_zero] at e2
    dsimp only
    rw [e, e2]; rfl
  · rw [show ((0 : Nat) : Int) = 0 from rfl] at e
    rw [List.drop_zero] at e2
    dsimp only
    rw [e, e2]; simp
theorem F_runsRowsplit_eq (k : Nat) {l : List TItem} (h : Sz 9000 l) (n : Nat) (hn : n ≤ (flatC l).length) (hk : 10000 ≤ k := by omega) : F_runsRowsplit (k + 2) (l.map mk, ()) (n : Int) = some (((((splitL l n).2 : Nat) : Int), ()), (((splitL l n).1.map mk, ()), ())) := by
  rw [F_runsRowsplit_step]
  have hl := h.len
  have key : ∀ m i (n : Nat), i ≤ l.length → l.length - i < m → n ≤ 9000 →
      (∃ b : Int × Unit, ∃ z, L_runsRowsplit_0 (k + 1) () () ((l.map mk).length : Nat) m ((n : Int), (0, ((i : Int), (((), ()), (l.map mk, ()))))) = some z ∧
        ((z = .brk ((n : Int) - ((l.drop i).map iln).sum, (0, ((l.length : Int), (((), ()), (l.map mk, ()))))) ∧ splitL (l.drop i) n = (l.drop i, (l.drop i).length)) ∨
         (z = .ret (((i + (splitL (l.drop i) n).2 : Nat) : Int), ()) (((l.take i ++ (splitL (l.drop i) n).1).map mk, ()), ())))) := by
    intro m
    induction m with
    | zero => intro i n _ h; omega
    | succ m ih =>
      intro i n h1 h2 h3
      rw [L_runsRowsplit_0_step]
      by_cases hi : i < l.length
      · have hwf := h.wf l[i] (by simp)
        have hw := hwf.lt
        have hlm : i < (l.map mk).length := by simpa using hi
        rw [br_t (by rw [List.length_map]; exact i_lt hi), br_t (i_in hlm), getM hi, i_nx (by omega), List.drop_eq_getElem_cons hi]
        rw [splitL]
        by_cases h0 : n = 0
        · subst h0
          rw [br_t (by simp), if_pos rfl]
          refine ⟨((0 : Int), ()), _, rfl, .inr ?_⟩
          dsimp only
          rw [← List.drop_eq_getElem_cons hi, List.take_append_drop]
          simp
        · rw [br_f (by simp; omega), if_neg h0]
          by_cases hlt : (n : Int) < iln l[i]
          · rw [br_t (decide_eq_true (show (n : Int) < (mk l[i]).1.2.2.1 from hlt)), if_pos hlt, F_runsrunparts_eq _ _ hwf _ (by omega) (by omega)]
            simp only [bd_s]
            rw [F_slicesReplacerunsrun_step, br_t (by
              simp only [leB, List.length_map, List.length_cons, List.length_nil, Bool.and_eq_true, decide_eq_true_eq]
              refine ⟨⟨⟨⟨?_, ?_⟩, ?_, ?_⟩, ?_⟩, ?_⟩ <;> omega)]
            simp only [bd_s]
            refine ⟨((0 : Int), ()), _, rfl, .inr ?_⟩
            simp only [Int.toNat_natCast, List.map_append, List.map_cons, List.map_take, List.map_drop, List.append_assoc, List.cons_append, List.nil_append]
          · rw [br_f (decide_eq_false (show ¬ (n : Int) < (mk l[i]).1.2.2.1 from hlt)), if_neg hlt]
            have ew : IntKind.wrap IntKind.i64 ((n : Int) - (mk l[i]).1.2.2.1) = ((n - (iln l[i]).toNat : Nat) : Int) := by
              rw [wr (by show _ ≤ (n : Int) - iln l[i] ∧ (n : Int) - iln l[i] < _; omega)]
              show (n : Int) - iln l[i] = _
              omega
            rw [ew]
            obtain ⟨b, z, e, hz⟩ := ih (i + 1) (n - (iln l[i]).toNat) (by omega) (by omega) (by omega)
            refine ⟨b, z, e, ?_⟩
            rcases hz with ⟨rfl, hs⟩ | rfl
            · left
              constructor
              · rw [List.map_cons, List.sum_cons]
                congr 2
                omega
              · rw [hs]; rfl
            · right
              rw [List.take_add_one, List.getElem?_eq_getElem hi]
              simp only [Option.toList_some, List.append_assoc, List.singleton_append]
              congr 3
              omega
      · have : i = l.length := by omega
        subst this
        rw [br_f (by rw [List.length_map]; exact i_ge _)]
        exact ⟨((0 : Int), ()), _, rfl, .inl ⟨by simp, by rw [List.drop_length]; rfl⟩⟩
  obtain ⟨b, z, e, hz⟩ := key (k + 1) 0 n (by omega) (by omega) (by have := h.few; omega)
  rw [show ((0 : Nat) : Int) = 0 from rfl] at e
  dsimp only
  rw [e]
  simp only [List.drop_zero, List.take_zero, List.nil_append, Nat.zero_add] at hz
  rcases hz with ⟨rfl, hs⟩ | rfl
  · rw [hs]; simp
  · rfl
end Go.Proofs.Ythlpjdjipchdkaa.E

namespace Go.Proofs.Ythlpjdjipchdkaa.E
open Go
set_option linter.unusedSimpArgs false
set_option linter.unusedVariables false
theorem cutR_mk (k : Nat) (x : TItem) (h : WFr x) (c : TCut) : F_runsruncut (k + 2) (mk x) c = some (((cutR x c).1.map mk, ((cutR x c).2, ())), ()) := by
  rw [F_runsruncut_step]
  have hp := h.lt
  have hle := h.le
  have ew : IntKind.wrap IntKind.i64 ((mk x).1.2.1 + (mk x).1.2.2.1) = ifr x + iln x := wr (by show _ ≤ ifr x + iln x ∧ ifr x + iln x < _; omega)
  rw [ew]
  have em1 : (if (mk x).1.2.1 > c.2.1 then (mk x).1.2.1 else c.2.1) = max c.2.1 (ifr x) := by
    show (if ifr x > c.2.1 then ifr x else c.2.1) = _
    split <;> omega
  have em2 : (if ifr x + iln x < c.2.2.1 then ifr x + iln x else c.2.2.1) = min c.2.2.1 (ifr x + iln x) := by
    split <;> omega
  rw [em1, em2]
  simp only [eqI, cond_t]
  have ec : ((!decide ((mk x).1.1 = c.1) || (mk x).1.2.2.2.2.2.1) || decide (max c.2.1 (ifr x) ≥ min c.2.2.1 (ifr x + iln x))) = decide (iop x ≠ c.1 ∨ igo x = true ∨ max c.2.1 (ifr x) ≥ min c.2.2.1 (ifr x + iln x)) := by
    rw [Bool.eq_iff_iff]
    simp only [Bool.or_eq_true, decide_eq_true_eq, Bool.not_eq_true', decide_eq_false_iff_not, ne_eq, or_assoc]
    rfl
  rw [ec]
  unfold cutR
  by_cases hc : iop x ≠ c.1 ∨ igo x = true ∨ max c.2.1 (ifr x) ≥ min c.2.2.1 (ifr x + iln x)
  · rw [br_t (by simpa using hc), if_pos hc]; rfl
  · rw [br_f (by simpa using hc), if_neg hc]
    simp only [not_or, Classical.not_not, ne_eq] at hc
    obtain ⟨h1, h2, h3⟩ := hc
    generalize hf : max c.2.1 (ifr x) = f at *
    generalize ht : min c.2.2.1 (ifr x + iln x) = t at *
    have hf1 : ifr x ≤ f := by omega
    have hf2 : f < ifr x + iln x := by omega
    obtain ⟨a1, a2, a3, a4, a5, a6, a7, a8⟩ := cutPre_spec h hf1 hf2
    have hA : L_runsruncut_1006 (k + 1) () f (decide (f > (mk x).1.2.1)) 1 ([], (mk x, ())) = some (.brk ((cutPre x f).1.map mk, (mk (cutPre x f).2, ()))) := by
      rw [L_runsruncut_1006_step]
      unfold cutPre
      by_cases hb : f > ifr x
      · rw [br_t (by simpa [mk] using hb), if_pos hb]
        have e : IntKind.wrap IntKind.i64 (f - (mk x).1.2.1) = f - ifr x := wr (by show _ ≤ f - ifr x ∧ f - ifr x < _; omega)
        rw [e, F_runsrunparts_eq _ _ h _ (by omega) (by omega)]
        simp only [bd_s]
        rw [br_t (by simp)]
        rfl
      · rw [br_f (by simpa [mk] using hb), if_neg hb]
        rfl
    rw [hA]
    simp only [bdL_b]
    generalize cutPre x f = p at *
    have hp3 := a3.lt
    have hp3l := a3.le
    have ew2 : IntKind.wrap IntKind.i64 ((mk p.2).1.2.1 + (mk p.2).1.2.2.1) = ifr p.2 + iln p.2 := wr (by show _ ≤ ifr p.2 + iln p.2 ∧ ifr p.2 + iln p.2 < _; omega)
    rw [ew2]
    have hB : L_runsruncut_1011 (k + 1) () t (decide (t < ifr p.2 + iln p.2)) 1 ([], (mk p.2, ())) = some (.brk ((cutPost p.2 t).1.map mk, (mk (cutPost p.2 t).2, ()))) := by
      rw [L_runsruncut_1011_step]
      unfold cutPost
      by_cases hb : t < ifr p.2 + iln p.2
      · rw [br_t (by simpa using hb), if_pos hb]
        have e : IntKind.wrap IntKind.i64 (t - (mk p.2).1.2.1) = t - ifr p.2 := wr (by show _ ≤ t - ifr p.2 ∧ t - ifr p.2 < _; omega)
        rw [e, F_runsrunparts_eq _ _ a3 _ (by omega) (by omega)]
        simp only [bd_s]
        rw [br_t (by simp)]
        rfl
      · rw [br_f (by simpa using hb), if_neg hb]
        rfl
    rw [hB]
    simp only [bdL_b]
    have hpl : p.1.length ≤ 1000 := by
      have hx := h.tx
      have e := congrArg List.length a1
      rw [List.length_append] at e
      have := len_le a2
      have e2 : (chs x).length = (itx x).length := chT_len _ _ _ _ _
      omega
    obtain ⟨b1, b2, b3, b4, b5, b6, b7, b8⟩ := cutPost_spec a3 (t := t) (by omega) (by omega)
    generalize hq : cutPost p.2 t = q at *
    have hql : q.1.length ≤ 1000 := by
      have hx := a3.tx
      have e := congrArg List.length b1
      rw [List.length_append] at e
      have := len_le b2
      have e2 : (chs p.2).length = (itx p.2).length := chT_len _ _ _ _ _
      omega
    rw [br_t (by simp; omega), br_t (by simp; omega)]
    simp only [List.map_append, List.map_cons, List.map_nil]
    rfl
def cutRow (l : List TItem) (c : TCut) : List TItem := (l.map fun r => (cutR r c).1).flatten
theorem cutRow_spec (c : TCut) : ∀ {l : List TItem}, AllWF l → flatC (cutRow l c) = (flatC l).map (cutC c) ∧ AllWF (cutRow l c)
  | [], _ => ⟨rfl, fun x hx => by simp [cutRow] at hx⟩
  | r :: l, h => by
    obtain ⟨h1, h2⟩ := cutRow_spec c (l := l) (fun x hx => h x (by simp [hx]))
    obtain ⟨g1, g2, g3⟩ := cutR_spec c (h r (by simp))
    have e : cutRow (r :: l) c = (cutR r c).1 ++ cutRow l c := by simp [cutRow]
    rw [e, flatC_app, g1, h1, flatC_cons, List.map_append]
    refine ⟨rfl, fun x hx => ?_⟩
    rcases List.mem_append.1 hx with hx | hx
    · exact g2 x hx
    · exact h2 x hx
theorem fold_cut (c : TCut) : ∀ (l : List TItem) (s : Int × List TItem), AllWF l → l.foldl (fun s r => (s.1 + (cutR r c).2, s.2 ++ (cutR r c).1)) s = (s.1 + (((flatC l).countP (newB c) : Nat) : Int), s.2 ++ cutRow l c)
  | [], s, _ => by simp [flatC, cutRow]
  | r :: l, s, h => by
    obtain ⟨g1, g2, g3⟩ := cutR_spec c (h r (by simp))
    rw [List.foldl_cons, fold_cut c l _ (fun x hx => h x (by simp [hx])), flatC_cons, List.countP_append, g3]
    simp only [cutRow, List.map_cons, List.flatten_cons, List.append_assoc, Prod.mk.injEq, and_true]
    omega
theorem F_runsRowCut_eq (k : Nat) {l : List TItem} (h : Sz 9000 l) (c : TCut) (hk : 10000 ≤ k := by omega) : F_runsRowCut (k + 3) (l.map mk, ()) c =
    some ((((((flatC l).countP (newB c) : Nat)) : Int), ()), (((mendL [] (cutRow l c)).map mk, ()), ())) := by
  rw [F_runsRowCut_step]
  have hl := h.len
  obtain ⟨c1, c2⟩ := cutRow_spec c h.wf
  have key := for_fold (L := fun m i (s : Int × List TItem) => L_runsRowCut_0 (k + 2) c (l.map mk) (((l.map mk).length : Nat) : Int) m (s.1, (s.2.map mk, (i, ())))) (l := l) (fun s r => (s.1 + (cutR r c).2, s.2 ++ (cutR r c).1)) (fun s => .brk (s.1, (s.2.map mk, ((l.length : Int), ()))))
    (fun i s => 0 ≤ s.1 ∧ s.1 ≤ 64 * i ∧ s.2.length ≤ 64 * i) (fun m i s hi hI => by
      have hw := h.wf l[i] (by simp)
      obtain ⟨hI1, hI2, hI3⟩ := hI
      obtain ⟨g1, g2, g3⟩ := cutR_spec c hw
      have hx := hw.tx
      have e2 : (chs l[i]).length = (itx l[i]).length := chT_len _ _ _ _ _
      have hcnt : (chs l[i]).countP (newB c) ≤ (chs l[i]).length := List.countP_le_length
      have hll : (cutR l[i] c).1.length ≤ 64 := by
        have := len_le g2
        rw [g1, List.length_map] at this
        omega
      refine ⟨?_, by dsimp only; omega, by dsimp only; omega, by simp; omega⟩
      show L_runsRowCut_0 _ _ _ _ _ _ = _
      rw [L_runsRowCut_0_step, List.length_map, br_t (i_lt hi), br_t (i_in hi), getM hi, i_nx (by omega), cutR_mk _ _ hw, bd_s, br_t (by simp; omega)]
      rw [wr (by dsimp only; omega), List.map_append]) (fun m s hI => by
      show L_runsRowCut_0 _ _ _ _ _ _ = _
      rw [L_runsRowCut_0_step, List.length_map, br_f (i_ge _)]) (k + 2) (0, []) (by omega) ⟨by simp, by simp, by simp⟩
  try dsimp only at key ⊢
  rw [List.map_nil] at key
  rw [key, fold_cut c l _ h.wf]
  simp only [bdL_b, List.nil_append]
  have hs : Sz 9000 (cutRow l c) := ⟨c2, by rw [c1, List.length_map]; exact h.few⟩
  have e := F_runsRowmend_eq k hs ()
  rw [e]
  simp
def rOp (i : TId) : Bool := decide (i.1 ≥ 0) && decide (i.1 ≤ 15) && decide (i.2.1 ≥ 1) && decide (i.2.1 ≤ 1048576)
theorem F_stampRightOp_eq (k : Nat) (i : TId) : F_stampRightOp (k + 1) i = some ((rOp i, ()), ()) := by
  rw [F_stampRightOp_step]
  unfold rOp
  simp only [cond_f]
  have : decide (i.1 < 16) = decide (i.1 ≤ 15) := by apply decide_eq_decide.2; omega
  rw [this]
theorem F_ref03RightOp_eq (k : Nat) (i : TId) : F_ref03RightOp (k + 1) i = some ((rOp i, ()), ()) := by
  rw [F_ref03RightOp_step]
  unfold rOp
  simp only [cond_f]
def rightI (x : TItem) : Prop := rOp (iop x) = true ∧ 1 ≤ iln x ∧ iln x ≤ 64 ∧ 0 ≤ ifr x ∧ ifr x + iln x ≤ 64 ∧ ((itx x).length : Int) = iln x ∧ (imk x = true → iln x = 1)
instance (x : TItem) : Decidable (rightI x) := inferInstanceAs (Decidable (_ ∧ _))
theorem F_runsright_eq (k : Nat) (x : TItem) : F_runsright (k + 2) x = some ((decide (rightI x), ()), ()) := by
  rw [F_runsright_step, F_stampRightOp_eq]
  simp only [bd_s, cond_t, cond_f]
  obtain ⟨op, fr, ln, L, R, g, m, t, u⟩ := x
  unfold rightI
  simp only [iop, ifr, iln, imk, itx]
  by_cases h : rOp op = true ∧ 1 ≤ ln ∧ ln ≤ 64 ∧ 0 ≤ fr ∧ fr ≤ 64
  · obtain ⟨h1, h2, h3, h4, h5⟩ := h
    rw [br_f (by simp [h1]; omega), wr (by omega)]
    congr 3
    rw [Bool.eq_iff_iff]
    simp only [Bool.and_eq_true, decide_eq_true_eq, beq_iff_eq, Bool.or_eq_true, Bool.not_eq_true', h1, h2, h3, h4, true_and]
    rw [and_assoc]
    refine and_congr_right fun _ => and_congr_right fun _ => ?_
    cases m <;> simp
  · rw [br_t (by
      simp only [Bool.or_eq_true, Bool.not_eq_true', decide_eq_true_eq]
      by_cases h1 : rOp op = true
      · by_cases h2 : ln < 1
        · exact .inl (.inl (.inl (.inr h2)))
        · by_cases h3 : ln > 64
          · exact .inl (.inl (.inr h3))
          · by_cases h4 : fr < 0
            · exact .inl (.inr h4)
            · refine .inr ?_
              have : ¬ (fr ≤ 64) := fun h5 => h ⟨h1, by omega, by omega, by omega, h5⟩
              omega
      · exact .inl (.inl (.inl (.inl (by simpa using h1)))))]
    have : decide (rightI (op, fr, ln, L, R, g, m, t, u)) = false := decide_eq_false (by
      rintro ⟨h1, h2, h3, h4, h5, _⟩
      simp only [iop, ifr, iln] at h1 h2 h3 h4 h5
      exact h ⟨h1, h2, h3, h4, by omega⟩)
    rw [← this]
    rfl
def bareI (x : TItem) : TItem := (iop x, ifr x, iln x, zC, zC, igo x, imk x, itx x, ())
theorem bareI_wf {x : TItem} (h : rightI x) : WFr (bareI x) := by
  obtain ⟨h1, h2, h3, h4, h5, h6, h7⟩ := h
  exact ⟨h6.symm, h2, h4, h5, h7, rfl, rfl⟩
def overC (cs : List Ch) (x : TItem) : Prop := ∃ k : Nat, (k : Int) < iln x ∧ ∃ c ∈ cs, keyB (iop x) (ifr x + k) c = true
theorem over_iff {l : List TItem} (h : AllWF l) {x : TItem} (hx : 1 ≤ iln x) : l.any (overB x) = true ↔ overC (flatC l) x := by
  rw [List.any_eq_true]
  constructor
  · rintro ⟨r, hr, ho⟩
    obtain ⟨k, hk, c, hc, e⟩ := (overB_iff hx (h r hr)).1 ho
    exact ⟨k, hk, c, List.mem_flatten.2 ⟨chs r, List.mem_map.2 ⟨r, hr, rfl⟩, hc⟩, e⟩
  · rintro ⟨k, hk, c, hc, e⟩
    obtain ⟨y, hy, hcy⟩ := List.mem_flatten.1 hc
    obtain ⟨r, hr, rfl⟩ := List.mem_map.1 hy
    exact ⟨r, hr, (overB_iff hx (h r hr)).2 ⟨k, hk, c, hcy, e⟩⟩
open Classical in
noncomputable def putC (cs : List Ch) (at_ : Int) (x : TItem) : Int × List Ch :=
  if rightI x then (if at_ < 0 ∨ at_ > cs.length then (11, cs) else if overC cs x then (12, cs) else (0, cs.take at_.toNat ++ chs x ++ cs.drop at_.toNat)) else (10, cs)
theorem chs_bare (x : TItem) : chs (bareI x) = chs x := rfl
theorem putC_len (cs : List Ch) (n : Int) (x : TItem) : (putC cs n x).2.length ≤ cs.length + 64 := by
  unfold putC
  split
  · rename_i h
    obtain ⟨h1, h2, h3, h4, h5, h6, h7⟩ := h
    have e2 : (chs x).length = (itx x).length := chT_len _ _ _ _ _
    split
    · exact Nat.le_add_right _ _
    · split
      · exact Nat.le_add_right _ _
      · simp only [List.length_append, List.length_take, List.length_drop]; omega
  · exact Nat.le_add_right _ _
theorem F_runsRowPut_eq (k : Nat) {l : List TItem} (h : Sz 8900 l) (hn : NJ l) (n : Int) (x : TItem) (hk : 10000 ≤ k := by omega) : ∃ l', F_runsRowPut (k + 4) (l.map mk, ()) n x = some (((putC (flatC l) n x).1, ()), ((l'.map mk, ()), ())) ∧ AllWF l' ∧ NJ l' ∧ flatC l' = (putC (flatC l) n x).2 := by
  have h9 : Sz 9000 l := ⟨h.wf, by have := h.few; omega⟩
  rw [F_runsRowPut_step, F_runsright_eq]
  simp only [bd_s]
  unfold putC
  by_cases hr : rightI x
  · rw [br_f (by simpa using hr), if_pos hr, F_runsRowLen_eq _ h9]
    simp only [bd_s, cond_t, Bool.false_or]
    by_cases h0 : n < 0
    · rw [br_t (by simpa using h0), if_pos (.inl h0)]
      exact ⟨l, rfl, h.wf, hn, rfl⟩
    · rw [br_f (by simpa using h0)]
      by_cases h1 : n > (flatC l).length
      · rw [br_t (by simpa using h1), if_pos (.inr h1)]
        exact ⟨l, rfl, h.wf, hn, rfl⟩
      · rw [br_f (by simpa using h1), if_neg (by omega)]
        have hr' := hr
        obtain ⟨r1, r2, r3, r4, r5, r6, r7⟩ := hr'
        rw [F_runsRowoverlaps_eq _ h9 x ⟨r4, r5, by omega⟩, bd_s]
        by_cases ho : overC (flatC l) x
        · rw [br_t (by simpa using (over_iff h.wf r2).2 ho), if_pos ho]
          exact ⟨l, rfl, h.wf, hn, rfl⟩
        · rw [br_f (by
            simp only
            rw [Bool.eq_false_iff]
            exact fun hh => ho ((over_iff h.wf r2).1 hh)), if_neg ho]
          have hsp := F_runsRowsplit_eq (k + 1) h9 n.toNat (by omega)
          rw [show ((n.toNat : Nat) : Int) = n by omega] at hsp
          rw [hsp]
          obtain ⟨s1, s2, s3, s4⟩ := splitL_spec (l := l) (n := n.toNat) h.wf (by omega)
          simp only [bd_s]
          generalize splitL l n.toNat = p at *
          have hflat : flatC p.1 = flatC l := by
            conv => lhs; rw [← List.take_append_drop p.2 p.1]
            rw [flatC_app, s3, s4, List.take_append_drop]
          have hpl : p.1.length ≤ 9000 := by
            have := len_le s1
            rw [hflat] at this
            have := h.few
            omega
          rw [F_slicesInsertrunsrun_step, br_t (by simp [leB]; omega)]
          simp only [bd_s]
          have hins : List.take (((p.2 : Nat) : Int)).toNat (p.1.map mk) ++ [mk (bareI x)] ++ List.drop (((p.2 : Nat) : Int)).toNat (p.1.map mk) = (p.1.take p.2 ++ [bareI x] ++ p.1.drop p.2).map mk := by
            simp
          have hit : ((x.1, (x.2.1, (x.2.2.1, ((((0 : Int), ((0 : Int), (dflt._f .unit ()))), ((0 : Int), ())), ((((0 : Int), ((0 : Int), (dflt._f .unit ()))), ((0 : Int), ())), x.2.2.2.2.2))))), ()) = mk (bareI x) := rfl
          rw [hit, hins]
          have hwf2 : AllWF (p.1.take p.2 ++ [bareI x] ++ p.1.drop p.2) := by
            intro y hy
            simp only [List.mem_append, List.mem_singleton] at hy
            rcases hy with (hy | hy) | hy
            · exact s1 y (List.mem_of_mem_take hy)
            · rw [hy]; exact bareI_wf hr
            · exact s1 y (List.mem_of_mem_drop hy)
          have hfl2 : flatC (p.1.take p.2 ++ [bareI x] ++ p.1.drop p.2) = (flatC l).take n.toNat ++ chs x ++ (flatC l).drop n.toNat := by
            rw [flatC_app, flatC_app, flatC_one, s3, s4, chs_bare]
          have hsz : Sz 9000 (p.1.take p.2 ++ [bareI x] ++ p.1.drop p.2) := ⟨hwf2, by
            rw [hfl2]
            have e2 : (chs x).length = (itx x).length := chT_len _ _ _ _ _
            have := h.few
            simp only [List.length_append, List.length_take, List.length_drop]
            omega⟩
          rw [F_runsRowmend_eq (k + 1) hsz, bd_s]
          obtain ⟨m1, m2, m3⟩ := mendL_spec (out := []) (fun x hx => by simp at hx) hwf2 (fun i hi => by simp at hi)
          exact ⟨_, rfl, m2, m3, by rw [m1, hfl2]; rfl⟩
  · rw [br_t (by simpa using hr), if_neg hr]
    exact ⟨l, rfl, h.wf, hn, rfl⟩
end Go.Proofs.Ythlpjdjipchdkaa.E

namespace Go.Proofs.Ythlpjdjipchdkaa.E
open Go
set_option linter.unusedSimpArgs false
set_option linter.unusedVariables false
theorem idx_none {cs : List Ch} {p : Ch → Bool} : cs.findIdx? p = none ↔ ∀ c ∈ cs, p c = false := by
  rw [List.findIdx?_eq_none_iff]
theorem ansF_there (o : Option Nat) : (ansF o).2.1 = o.isSome := by cases o <;> rfl
theorem L_put_eq (k : Nat) (cs : List Ch) (hl : cs.length ≤ 9000) (x : TItem) (hr : rightI x) (hk : 10000 ≤ k) : ∀ m i, i ≤ (itx x).length → (itx x).length - i < m →
    (∃ b, L_ref10RowPut_0 (k + 1) () x m (0, (((chs x).take i).map one, ((i : Int), ((cs.map one, ()), ())))) = some (.brk (0, ((chs x).map one, (b, ((cs.map one, ()), ()))))) ∧ ∀ j : Nat, i ≤ j → (j : Int) < iln x → ∀ c ∈ cs, keyB (iop x) (ifr x + j) c = false) ∨
    (L_ref10RowPut_0 (k + 1) () x m (0, (((chs x).take i).map one, ((i : Int), ((cs.map one, ()), ())))) = some (.ret (12, ()) ((cs.map one, ()), ())) ∧ overC cs x) := by
  intro m
  obtain ⟨r1, r2, r3, r4, r5, r6, r7⟩ := hr
  induction m with
  | zero => intro i _ h; omega
  | succ m ih =>
    intro i h1 h2
    rw [L_ref10RowPut_0_step]
    by_cases h : i < (itx x).length
    · rw [br_t (by simp only [decide_eq_true_eq]; show (i : Int) < iln x; omega)]
      have w1 : IntKind.wrap IntKind.i64 (x.2.1 + (i : Int)) = ifr x + i := wr (by show _ ≤ ifr x + (i : Int) ∧ ifr x + (i : Int) < _; omega)
      rw [w1]
      have hF := F_ref10RowFind_eq k cs hl (x.1, ifr x + (i : Int), ())
      rw [hF]
      simp only [bd_s, ansF_there]
      have hkey : (cs.findIdx? (keyB x.1 (ifr x + (i : Int)))).isSome = true ↔ ∃ c ∈ cs, keyB (iop x) (ifr x + i) c = true := by
        rw [Option.isSome_iff_ne_none, ne_eq, idx_none]
        constructor
        · intro hh
          rcases Classical.em (∃ c ∈ cs, keyB (iop x) (ifr x + i) c = true) with h | h
          · exact h
          · exact absurd (fun c hc => by
              rw [Bool.eq_false_iff]
              exact fun e => h ⟨c, hc, e⟩) hh
        · rintro ⟨c, hc, e⟩ hh
          have := hh c hc
          have e' : keyB x.1 (ifr x + (i : Int)) c = true := e
          rw [e'] at this
          cases this
      by_cases hf : ∃ c ∈ cs, keyB (iop x) (ifr x + i) c = true
      · right
        rw [br_t (hkey.2 hf)]
        refine ⟨rfl, i, by omega, hf⟩
      · have hf' : (cs.findIdx? (keyB x.1 (ifr x + (i : Int)))).isSome = false := by
          rw [Bool.eq_false_iff]
          exact fun hh => hf (hkey.1 hh)
        rw [br_f hf', i_nx (by omega)]
        rw [br_t (by simp only [leB, Bool.and_eq_true, decide_eq_true_eq, Bool.true_and]; show ((0 : Int) ≤ _ ∧ ((i + 1 : Nat) : Int) ≤ (itx x).length) ∧ (0 : Int) ≤ (i : Int) ∧ _; omega)]
        rw [br_t (by simp; omega)]
        have hone : ((chs x).take (i + 1)).map one = ((chs x).take i).map one ++ [(x.1, (ifr x + (i : Int), ((1 : Int), ((((0 : Int), ((0 : Int), (dflt._f .unit ()))), ((0 : Int), (dflt._f .unit ()))), ((((0 : Int), ((0 : Int), (dflt._f .unit ()))), ((0 : Int), (dflt._f .unit ()))), (x.2.2.2.2.2.1, (x.2.2.2.2.2.2.1, ((List.drop (Int.toNat (i : Int)) (List.take (Int.toNat ((i + 1 : Nat) : Int)) x.2.2.2.2.2.2.2.1)), ()))))))))] := by
          rw [List.take_add_one]
          have : (chs x)[i]? = some ⟨iop x, ifr x + i, igo x, imk x, (itx x)[i]⟩ := chT_get _ _ _ _ _ _ h
          rw [this]
          simp only [Option.toList_some, List.map_append, List.map_cons, List.map_nil]
          congr 1
          have e : List.drop (Int.toNat (i : Int)) (List.take (Int.toNat ((i + 1 : Nat) : Int)) (itx x)) = [(itx x)[i]] := by
            rw [Int.toNat_natCast, Int.toNat_natCast, List.take_add_one, List.getElem?_eq_getElem h]
            rw [List.drop_append_of_le_length (by rw [List.length_take]; omega), List.drop_eq_nil_of_le (by rw [List.length_take]; omega)]
            rfl
          have e' : List.drop (Int.toNat (i : Int)) (List.take (Int.toNat ((i + 1 : Nat) : Int)) x.2.2.2.2.2.2.2.1) = [(itx x)[i]] := e
          rw [e']
          rfl
        rw [← hone]
        rcases ih (i + 1) (by omega) (by omega) with ⟨b, e, e2⟩ | ⟨e, e2⟩
        · left
          refine ⟨b, e, fun j hj1 hj2 c hc => ?_⟩
          by_cases hji : j = i
          · subst hji
            rw [Bool.eq_false_iff]
            exact fun hh => hf ⟨c, hc, hh⟩
          · exact e2 j (by omega) hj2 c hc
        · exact .inr ⟨e, e2⟩
    · have hi : i = (itx x).length := by omega
      left
      rw [br_f (by simp only [decide_eq_false_iff_not]; show ¬ (i : Int) < iln x; omega)]
      have e2 : (chs x).length = (itx x).length := chT_len _ _ _ _ _
      rw [List.take_of_length_le (by omega)]
      exact ⟨_, rfl, fun j hj1 hj2 => by omega⟩
theorem F_ref10RowPut_eq (k : Nat) (cs : List Ch) (hl : cs.length ≤ 8900) (n : Int) (x : TItem) (hk : 10000 ≤ k := by omega) : F_ref10RowPut (k + 2) (cs.map one, ()) n x = some (((putC cs n x).1, ()), (((putC cs n x).2.map one, ()), ())) := by
  rw [F_ref10RowPut_step, F_ref03RightOp_eq]
  simp only [bd_s, cond_t, cond_f]
  unfold putC
  by_cases hr : rightI x
  · have hr' := hr
    obtain ⟨r1, r2, r3, r4, r5, r6, r7⟩ := hr'
    have w : IntKind.wrap IntKind.i64 (x.2.1 + x.2.2.1) = ifr x + iln x := wr (by show _ ≤ ifr x + iln x ∧ ifr x + iln x < _; omega)
    rw [w]
    rw [br_f (by
      simp only [Bool.or_eq_false_iff, Bool.not_eq_false', decide_eq_false_iff_not, Bool.and_eq_false_imp, decide_eq_true_eq, bne_eq_false_iff_eq]
      refine ⟨⟨⟨⟨⟨⟨⟨r1, ?_⟩, ?_⟩, ?_⟩, ?_⟩, ?_⟩, ?_⟩, ?_⟩
      · show ¬ iln x < 1; omega
      · show ¬ iln x > 64; omega
      · show ¬ ifr x < 0; omega
      · show ¬ ifr x > 64; omega
      · omega
      · exact r6
      · intro hm
        have := r7 hm
        show ¬ iln x > 1; omega), if_pos hr]
    by_cases h0 : n < 0
    · rw [br_t (by simpa using h0), if_pos (.inl h0)]
    · rw [br_f (by simpa using h0)]
      by_cases h1 : n > cs.length
      · rw [br_t (by simpa using h1), if_pos (.inr h1)]
      · rw [br_f (by simpa using h1), if_neg (by omega)]
        rcases L_put_eq k cs (by omega) x hr hk (k + 1) 0 (by omega) (by omega) with ⟨b, e, e2⟩ | ⟨e, e2⟩
        · rw [show ((0 : Nat) : Int) = 0 from rfl] at e
          simp only [List.take_zero, List.map_nil] at e
          rw [e]
          have hno : ¬ overC cs x := by
            rintro ⟨j, hj, c, hc, hk⟩
            have := e2 j (by omega) hj c hc
            rw [hk] at this
            cases this
          rw [if_neg hno]
          simp only [bdL_b]
          have hcl : (chs x).length ≤ 64 := by
            have e2 : (chs x).length = (itx x).length := chT_len _ _ _ _ _
            omega
          rw [br_t (by simp [leB]; omega), br_t (by simp; omega), br_t (by simp; omega), br_t (by simp [leB]; omega), br_t (by simp; omega)]
          simp
          rw [List.take_of_length_le (by simp)]
        · rw [show ((0 : Nat) : Int) = 0 from rfl] at e
          simp only [List.take_zero, List.map_nil] at e
          rw [e, if_pos e2]
          rfl
  · rw [if_neg hr]
    rw [br_t]
    obtain ⟨op, fr, ln, L, R, g, m, t, u⟩ := x
    unfold rightI at hr
    simp only [iop, ifr, iln, imk, itx] at hr
    simp only [Bool.or_eq_true, Bool.not_eq_true', decide_eq_true_eq, Bool.and_eq_true, bne_iff_ne, ne_eq]
    by_cases h1 : rOp op = true
    · by_cases h2 : ln < 1
      · simp [h2]
      by_cases h3 : ln > 64
      · simp [h3]
      by_cases h4 : fr < 0
      · simp [h4]
      by_cases h5 : fr > 64
      · simp [h5]
      rw [wr (by omega)]
      by_cases h6 : fr + ln > 64
      · simp [h6]
      by_cases h7 : ((t.length : Nat) : Int) = ln
      · refine .inr ?_
        cases m with
        | true =>
          refine ⟨rfl, ?_⟩
          have : ¬ (ln = 1) := fun e => hr ⟨h1, by omega, by omega, by omega, by omega, h7, fun _ => e⟩
          omega
        | false => exact absurd ⟨h1, by omega, by omega, by omega, by omega, h7, fun e => by cases e⟩ hr
      · exact .inl (.inr h7)
    · simp [h1]
end Go.Proofs.Ythlpjdjipchdkaa.E

namespace Go.Proofs.Ythlpjdjipchdkaa.E
open Go
set_option linter.unusedSimpArgs false
set_option linter.unusedVariables false
theorem txt_mk : ∀ {l : List TItem}, AllWF l → txtOf (l.map mk) = ((flatC l).filter liveB).map (·.b) := by
  intro l h
  rw [flatC_live]
  unfold txtOf
  rw [List.map_map]
  congr 1
  apply List.map_congr_left
  intro r hr
  have := (h r hr).pos
  show runTxt (mk r) = liveT r
  unfold runTxt liveT mk
  split
  · rfl
  · rw [if_pos (by show iln r > 0; omega)]
theorem live_le (cs : List Ch) : (((cs.filter liveB).map (·.b)).length) ≤ cs.length := by
  rw [List.length_map]; exact List.length_filter_le _ _
theorem F_runsRowText_eq (k : Nat) {l : List TItem} (h : Sz 9000 l) : F_runsRowText (k + 1) (l.map mk, ()) = some (((((flatC l).filter liveB).map (·.b)), ()), ()) := by
  rw [F_runsRowText_step, txt_mk h.wf, br_t]
  have := live_le (flatC l)
  have := h.few
  have := h.len
  simp only [List.length_map, Bool.and_eq_true, decide_eq_true_eq] at *
  omega
theorem F_law10great_eq (k : Nat) (a : List TRCall) (hk : 10000 ≤ k := by omega) : ∃ g, F_law10great (k + 1) a = some ((g, ()), ()) ∧ (g = false → a.length ≤ 100) := by
  rw [F_law10great_step]
  by_cases h : a.length > 100
  · rw [br_t (by simp; omega)]
    exact ⟨true, rfl, fun h => by cases h⟩
  · rw [br_f (by simp; omega)]
    have key : ∀ m i, i ≤ a.length → a.length - i < m → (∃ b, L_law10great_0 k a m (false, ((i : Int), ())) = some (.brk b)) ∨ L_law10great_0 k a m (false, ((i : Int), ())) = some (.ret (true, ()) ()) := by
      intro m
      induction m with
      | zero => intro i _ h; omega
      | succ m ih =>
        intro i h1 h2
        rw [L_law10great_0_step]
        by_cases hi : i < a.length
        · rw [br_t (i_lt hi), br_t (i_in hi), i_nx (by omega)]
          cases decide ((((List.length (List.getD a (Int.toNat (i : Int)) zRC).2.2.1.2.2.2.2.2.2.2.1) : Nat) : Int) > (200 : Int)) with
          | true => exact .inr rfl
          | false => exact ih (i + 1) (by omega) (by omega)
        · have : i = a.length := by omega
          subst this
          rw [br_f (i_ge _)]
          exact .inl ⟨_, rfl⟩
    rcases key k 0 (by omega) (by omega) with ⟨b, e⟩ | e
    · rw [show ((0 : Nat) : Int) = 0 from rfl] at e
      rw [e]
      exact ⟨false, rfl, fun _ => by omega⟩
    · rw [show ((0 : Nat) : Int) = 0 from rfl] at e
      rw [e]
      exact ⟨true, rfl, fun h => by cases h⟩
def canon (cs : List Ch) : List TItem := mendL [] (cs.map one)
def Good (cs : List Ch) : Prop := ∃ l, AllWF l ∧ NJ l ∧ flatC l = cs
theorem canon_flat {l : List TItem} (h : AllWF l) (hn : NJ l) : canon (flatC l) = l := by
  have := mend_canon (out := []) h (by simpa using hn)
  simpa [canon] using this
theorem Good.wf {cs : List Ch} (h : Good cs) : AllWF (canon cs) ∧ NJ (canon cs) ∧ flatC (canon cs) = cs := by
  obtain ⟨l, h1, h2, rfl⟩ := h
  rw [canon_flat h1 h2]
  exact ⟨h1, h2, rfl⟩
theorem Good.sz {cs : List Ch} (h : Good cs) {n : Nat} (hl : cs.length ≤ n) : Sz n (canon cs) := ⟨h.wf.1, by rw [h.wf.2.2]; exact hl⟩
theorem good_nil : Good [] := ⟨[], fun x hx => by simp at hx, fun i hi => by simp at hi, rfl⟩
theorem Put_can (k : Nat) {cs : List Ch} (h : Good cs) (hl : cs.length ≤ 8900) (n : Int) (x : TItem) (hk : 10000 ≤ k := by omega) :
    F_runsRowPut (k + 4) ((canon cs).map mk, ()) n x = some (((putC cs n x).1, ()), (((canon (putC cs n x).2).map mk, ()), ())) ∧ Good (putC cs n x).2 := by
  obtain ⟨h1, h2, h3⟩ := h.wf
  obtain ⟨l', e, a1, a2, a3⟩ := F_runsRowPut_eq k (h.sz hl) h2 n x
  rw [h3] at e a3
  refine ⟨?_, l', a1, a2, a3⟩
  rw [e, ← a3, canon_flat a1 a2]
theorem Cut_can (k : Nat) {cs : List Ch} (h : Good cs) (hl : cs.length ≤ 8900) (c : TCut) (hk : 10000 ≤ k := by omega) :
    F_runsRowCut (k + 3) ((canon cs).map mk, ()) c = some ((((cs.countP (newB c) : Nat) : Int), ()), (((canon (cs.map (cutC c))).map mk, ()), ())) ∧ Good (cs.map (cutC c)) := by
  obtain ⟨h1, h2, h3⟩ := h.wf
  have e := F_runsRowCut_eq k (h.sz (n := 9000) (by omega)) c
  obtain ⟨c1, c2⟩ := cutRow_spec c h1
  obtain ⟨m1, m2, m3⟩ := mendL_spec (out := []) (fun x hx => by simp at hx) c2 (fun i hi => by simp at hi)
  have m1' : flatC (mendL [] (cutRow (canon cs) c)) = cs.map (cutC c) := by rw [m1, c1, h3]; rfl
  rw [h3] at e
  refine ⟨?_, _, m2, m3, m1'⟩
  rw [e, ← m1', canon_flat m2 m3]
theorem F_runsNew_eq (k : Nat) : F_runsNew (k + 1) = some ((((canon []).map mk, ()), ()), ()) := by rw [F_runsNew_step]; rfl
def xA : TItem := ((0, 1, ()), 0, 3, zC, zC, false, false, [97, 98, 99], ())
def xB : TItem := ((0, 1, ()), 2, 1, zC, zC, false, false, [120], ())
def cA : TCut := ((0, 1, ()), 1, 2, ())
def csA : List Ch := [⟨(0, 1, ()), 0, false, false, 97⟩, ⟨(0, 1, ()), 1, false, false, 98⟩, ⟨(0, 1, ()), 2, false, false, 99⟩]
def csB : List Ch := [⟨(0, 1, ()), 0, false, false, 97⟩, ⟨(0, 1, ()), 1, true, false, 98⟩, ⟨(0, 1, ()), 2, false, false, 99⟩]
theorem putA : putC [] 0 xA = (0, csA) := by
  unfold putC
  rw [if_pos (by decide), if_neg (by simp), if_neg (by rintro ⟨_, _, c, hc, _⟩; simp at hc)]
  rfl
theorem putB : putC csA 0 xB = (12, csA) := by
  unfold putC
  rw [if_pos (by decide), if_neg (by simp [csA]), if_pos]
  exact ⟨0, by decide, ⟨(0, 1, ()), 2, false, false, 99⟩, by simp [csA], by decide⟩
theorem cutA : csA.map (cutC cA) = csB := rfl
theorem cntA : csA.countP (newB cA) = 1 := rfl
theorem canB : canon csB = [((0, 1, ()), 0, 1, zC, zC, false, false, [97], ()), ((0, 1, ()), 1, 1, zC, zC, true, false, [98], ()), ((0, 1, ()), 2, 1, zC, zC, false, false, [99], ())] := rfl
theorem F_law10alive_eq (k : Nat) (hk : 10000 ≤ k := by omega) : F_law10alive (k + 10) = some ((true, ()), ()) := by
  rw [F_law10alive_step, F_runsNew_eq]
  simp only [bd_s]
  rw [F_law10item_step]
  simp only [bd_s]
  have g0 := Put_can (k + 5) good_nil (by simp) 0 xA
  rw [putA] at g0
  obtain ⟨e0, g0⟩ := g0
  refine Eq.trans (congrArg (fun z => bd z _) e0) ?_
  simp only [bd_s]
  rw [br_f (by simp), F_law10item_step]
  simp only [bd_s]
  have g1 := Put_can (k + 5) g0 (by simp [csA]) 0 xB
  rw [putB] at g1
  obtain ⟨e1, g1⟩ := g1
  refine Eq.trans (congrArg (fun z => bd z _) e1) ?_
  simp only [bd_s]
  rw [br_f (by simp)]
  have g2 := Cut_can (k + 6) g1 (by simp [csA]) cA
  rw [cntA, cutA] at g2
  obtain ⟨e2, g2⟩ := g2
  refine Eq.trans (congrArg (fun z => bd z _) e2) ?_
  simp only [bd_s]
  have hs : Sz 9000 (canon csB) := g2.sz (by simp [csB])
  rw [F_runsRowRuns_eq _ hs, bd_s, F_runsRowFind_eq _ hs, bd_s]
  rw [g2.wf.2.2]
  have ef : ansF (csB.findIdx? (keyB (0, 1, ()) 2)) = (2, (true, ())) := rfl
  rw [ef]
  rw [br_t (by rw [canB]; rfl), br_t (by rw [canB]; rfl), br_t (by rw [canB]; rfl)]
  rw [F_runsRowText_eq _ hs, bd_s, g2.wf.2.2]
  have et : (csB.filter liveB).map (·.b) = [97, 99] := rfl
  rw [et]
  rw [br_t (by rfl), F_runsRowLen_eq _ hs, bd_s, g2.wf.2.2, br_t (by rfl), F_runsRowLive_eq _ hs, bd_s, g2.wf.2.2]
  rfl
noncomputable def callC (cs : List Ch) (x : TRCall) : List Ch := if x.1 = 0 then (putC cs x.2.1 x.2.2.1).2 else cs.map (cutC x.2.2.2.1)
theorem callC_len (cs : List Ch) (x : TRCall) : (callC cs x).length ≤ cs.length + 64 := by
  unfold callC
  split
  · exact putC_len _ _ _
  · simp
end Go.Proofs.Ythlpjdjipchdkaa.E

namespace Go.Proofs.Ythlpjdjipchdkaa.E
open Go
set_option linter.unusedVariables false
set_option maxRecDepth 100000
end Go.Proofs.Ythlpjdjipchdkaa.E

namespace Go.Proofs.Ythlpjdjipchdkaa.E
open Go
set_option linter.unusedSimpArgs false
set_option linter.unusedVariables false
noncomputable def stC (a : List TRCall) : List Ch := a.foldl callC []
theorem fold_good : ∀ (l : List TRCall) (cs : List Ch), Good cs → cs.length + 64 * l.length ≤ 8000 → Good (l.foldl callC cs) ∧ (l.foldl callC cs).length ≤ cs.length + 64 * l.length
  | [], cs, h, _ => ⟨h, by simp⟩
  | x :: l, cs, h, hl => by
    simp only [List.length_cons] at hl
    have hc : Good (callC cs x) := by
      unfold callC
      split
      · exact (Put_can 10000 h (by omega) _ _ (by omega)).2
      · exact (Cut_can 10000 h (by omega) _ (by omega)).2
    have hcl := callC_len cs x
    obtain ⟨g1, g2⟩ := fold_good l (callC cs x) hc (by omega)
    refine ⟨g1, ?_⟩
    rw [List.foldl_cons, List.length_cons]
    omega
theorem stC_good {a : List TRCall} (h : a.length ≤ 100) : Good (stC a) ∧ (stC a).length ≤ 6400 := by
  obtain ⟨g1, g2⟩ := fold_good a [] good_nil (by simp; omega)
  exact ⟨g1, by simp at g2; unfold stC; omega⟩
end Go.Proofs.Ythlpjdjipchdkaa.E

namespace Go.Proofs.Ythlpjdjipchdkaa.E
open Go
set_option linter.unusedVariables false
set_option maxRecDepth 100000
noncomputable def F_law10RunsCalls (k : Nat) (a0 : List (TRCall)) (a1 : Int) (a2 : TChar) : Option (((Bool) × (Unit)) × (Unit)) := fnE E0 k 4 (a0, a1, a2, ())
noncomputable def L_law10RunsCalls_0 (k : Nat) (s0 : List (TRCall)) (s1 : Unit) (s2 : Unit) : Nat → (Bool) × ((Int) × (((List (TRun)) × (Unit)) × (((List (TItem)) × (Unit)) × (Unit)))) → Option (LO ((Bool) × (Unit)) ((Bool) × ((Int) × (((List (TRun)) × (Unit)) × (((List (TItem)) × (Unit)) × (Unit))))) (((List (TRun)) × (Unit)) × (((List (TItem)) × (Unit)) × (Unit)))) :=
  loopF true 0 147 5000000 4 cut5000000_4_0 (s0, s1, s2, ()) (fun σ K => bodyAt E0 (fnE E0 k) (inl5 E0 (fnE E0 k) k) 4 (rvOf 4) k (codeOf 4 0) _ σ K)
theorem L_law10RunsCalls_0_step (k m : Nat) (s0 : List (TRCall)) (s1 : Unit) (s2 : Unit) (x0 : Bool) (x1 : Int) (x2 : (List (TRun)) × (Unit)) (x3 : (List (TItem)) × (Unit)) : L_law10RunsCalls_0 k s0 s1 s2 (m + 1) (x0, x1, x2, x3, ()) =
  (br (decide (x1 < (((List.length s0) : Nat) : Int)))
   (br (inB x1 (List.length s0))
    (br ((List.getD s0 (Int.toNat x1) zRC).1 == (0 : Int))
     (bd (F_runsRowPut k x2 (List.getD s0 (Int.toNat x1) zRC).2.1 (List.getD s0 (Int.toNat x1) zRC).2.2.1) (fun (r : ((Int) × (Unit)) × (((List (TRun)) × (Unit)) × (Unit))) => (bd (F_ref10RowPut k x3 (List.getD s0 (Int.toNat x1) zRC).2.1 (List.getD s0 (Int.toNat x1) zRC).2.2.1) (fun (r1 : ((Int) × (Unit)) × (((List (TItem)) × (Unit)) × (Unit))) => (br (r.1.1 != r1.1.1)
         (some (.ret (false, ()) (r.2.1, (r1.2.1, ()))))
         (bd (F_runsRowLen k r.2.1) (fun (r2 : ((Int) × (Unit)) × (Unit)) => (br (r2.1.1 != (((List.length r1.2.1.1) : Nat) : Int))
            (some (.ret (false, ()) (r.2.1, (r1.2.1, ()))))
            (L_law10RunsCalls_0 k s0 s1 s2 m (x0, ((IntKind.wrap (IntKind.i64) (x1 + (1 : Int))), (r.2.1, (r1.2.1, ())))))))))))))
     (bd (F_runsRowCut k x2 (List.getD s0 (Int.toNat x1) zRC).2.2.2.1) (fun (r : ((Int) × (Unit)) × (((List (TRun)) × (Unit)) × (Unit))) => (bd (F_ref10RowCut k x3 (List.getD s0 (Int.toNat x1) zRC).2.2.2.1) (fun (r1 : ((Int) × (Unit)) × (((List (TItem)) × (Unit)) × (Unit))) => (br (r.1.1 != r1.1.1)
         (some (.ret (false, ()) (r.2.1, (r1.2.1, ()))))
         (bd (F_runsRowLen k r.2.1) (fun (r2 : ((Int) × (Unit)) × (Unit)) => (br (r2.1.1 != (((List.length r1.2.1.1) : Nat) : Int))
            (some (.ret (false, ()) (r.2.1, (r1.2.1, ()))))
            (L_law10RunsCalls_0 k s0 s1 s2 m (x0, ((IntKind.wrap (IntKind.i64) (x1 + (1 : Int))), (r.2.1, (r1.2.1, ()))))))))))))))
    none)
   (some (.brk (x0, (x1, (x2, (x3, ()))))))) :=
 (show L_law10RunsCalls_0 k s0 s1 s2 (m + 1) (x0, x1, x2, x3, ()) =
  (br (decide (x1 < (((List.length s0) : Nat) : Int)))
   (br (inB x1 (List.length s0))
    (br ((List.getD s0 (Int.toNat x1) zRC).1 == (0 : Int))
     (both
      (bd (F_runsRowPut k x2 (List.getD s0 (Int.toNat x1) zRC).2.1 (List.getD s0 (Int.toNat x1) zRC).2.2.1) (fun (r : ((Int) × (Unit)) × (((List (TRun)) × (Unit)) × (Unit))) => (bd (F_ref10RowPut k x3 (List.getD s0 (Int.toNat x1) zRC).2.1 (List.getD s0 (Int.toNat x1) zRC).2.2.1) (fun (r1 : ((Int) × (Unit)) × (((List (TItem)) × (Unit)) × (Unit))) => (br (r.1.1 != r1.1.1)
         (some (.ret (false, ()) (r.2.1, (r1.2.1, ()))))
         (both
          (bd (F_runsRowLen k r.2.1) (fun (r2 : ((Int) × (Unit)) × (Unit)) => (br (r2.1.1 != (((List.length r1.2.1.1) : Nat) : Int))
            (some (.ret (false, ()) (r.2.1, (r1.2.1, ()))))
            (L_law10RunsCalls_0 k s0 s1 s2 m (x0, ((IntKind.wrap (IntKind.i64) (x1 + (1 : Int))), (r.2.1, (r1.2.1, ()))))))))
          (bd (F_runsRowLen k r.2.1) (fun (r2 : ((Int) × (Unit)) × (Unit)) => (br (r2.1.1 != (((List.length r1.2.1.1) : Nat) : Int))
            (some (.ret (false, ()) (r.2.1, (r1.2.1, ()))))
            (L_law10RunsCalls_0 k s0 s1 s2 m (x0, ((IntKind.wrap (IntKind.i64) (x1 + (1 : Int))), (r.2.1, (r1.2.1, ()))))))))))))))
      (both
       (both
        (bd (F_runsRowPut k x2 (List.getD s0 (Int.toNat x1) zRC).2.1 (List.getD s0 (Int.toNat x1) zRC).2.2.1) (fun (r : ((Int) × (Unit)) × (((List (TRun)) × (Unit)) × (Unit))) => (bd (F_ref10RowPut k x3 (List.getD s0 (Int.toNat x1) zRC).2.1 (List.getD s0 (Int.toNat x1) zRC).2.2.1) (fun (r1 : ((Int) × (Unit)) × (((List (TItem)) × (Unit)) × (Unit))) => (br (r.1.1 != r1.1.1)
           (some (.ret (false, ()) (r.2.1, (r1.2.1, ()))))
           (both
            (bd (F_runsRowLen k r.2.1) (fun (r2 : ((Int) × (Unit)) × (Unit)) => (br (r2.1.1 != (((List.length r1.2.1.1) : Nat) : Int))
              (some (.ret (false, ()) (r.2.1, (r1.2.1, ()))))
              (L_law10RunsCalls_0 k s0 s1 s2 m (x0, ((IntKind.wrap (IntKind.i64) (x1 + (1 : Int))), (r.2.1, (r1.2.1, ()))))))))
            (bd (F_runsRowLen k r.2.1) (fun (r2 : ((Int) × (Unit)) × (Unit)) => (br (r2.1.1 != (((List.length r1.2.1.1) : Nat) : Int))
              (some (.ret (false, ()) (r.2.1, (r1.2.1, ()))))
              (L_law10RunsCalls_0 k s0 s1 s2 m (x0, ((IntKind.wrap (IntKind.i64) (x1 + (1 : Int))), (r.2.1, (r1.2.1, ()))))))))))))))
        (bd (F_runsRowPut k x2 (List.getD s0 (Int.toNat x1) zRC).2.1 (List.getD s0 (Int.toNat x1) zRC).2.2.1) (fun (r : ((Int) × (Unit)) × (((List (TRun)) × (Unit)) × (Unit))) => (bd (F_ref10RowPut k x3 (List.getD s0 (Int.toNat x1) zRC).2.1 (List.getD s0 (Int.toNat x1) zRC).2.2.1) (fun (r1 : ((Int) × (Unit)) × (((List (TItem)) × (Unit)) × (Unit))) => (br (r.1.1 != r1.1.1)
           (some (.ret (false, ()) (r.2.1, (r1.2.1, ()))))
           (both
            (bd (F_runsRowLen k r.2.1) (fun (r2 : ((Int) × (Unit)) × (Unit)) => (br (r2.1.1 != (((List.length r1.2.1.1) : Nat) : Int))
              (some (.ret (false, ()) (r.2.1, (r1.2.1, ()))))
              (L_law10RunsCalls_0 k s0 s1 s2 m (x0, ((IntKind.wrap (IntKind.i64) (x1 + (1 : Int))), (r.2.1, (r1.2.1, ()))))))))
            (bd (F_runsRowLen k r.2.1) (fun (r2 : ((Int) × (Unit)) × (Unit)) => (br (r2.1.1 != (((List.length r1.2.1.1) : Nat) : Int))
              (some (.ret (false, ()) (r.2.1, (r1.2.1, ()))))
              (L_law10RunsCalls_0 k s0 s1 s2 m (x0, ((IntKind.wrap (IntKind.i64) (x1 + (1 : Int))), (r.2.1, (r1.2.1, ())))))))))))))))
       (both
        (bd (F_runsRowPut k x2 (List.getD s0 (Int.toNat x1) zRC).2.1 (List.getD s0 (Int.toNat x1) zRC).2.2.1) (fun (r : ((Int) × (Unit)) × (((List (TRun)) × (Unit)) × (Unit))) => (bd (F_ref10RowPut k x3 (List.getD s0 (Int.toNat x1) zRC).2.1 (List.getD s0 (Int.toNat x1) zRC).2.2.1) (fun (r1 : ((Int) × (Unit)) × (((List (TItem)) × (Unit)) × (Unit))) => (br (r.1.1 != r1.1.1)
           (some (.ret (false, ()) (r.2.1, (r1.2.1, ()))))
           (both
            (bd (F_runsRowLen k r.2.1) (fun (r2 : ((Int) × (Unit)) × (Unit)) => (br (r2.1.1 != (((List.length r1.2.1.1) : Nat) : Int))
              (some (.ret (false, ()) (r.2.1, (r1.2.1, ()))))
              (L_law10RunsCalls_0 k s0 s1 s2 m (x0, ((IntKind.wrap (IntKind.i64) (x1 + (1 : Int))), (r.2.1, (r1.2.1, ()))))))))
            (bd (F_runsRowLen k r.2.1) (fun (r2 : ((Int) × (Unit)) × (Unit)) => (br (r2.1.1 != (((List.length r1.2.1.1) : Nat) : Int))
              (some (.ret (false, ()) (r.2.1, (r1.2.1, ()))))
              (L_law10RunsCalls_0 k s0 s1 s2 m (x0, ((IntKind.wrap (IntKind.i64) (x1 + (1 : Int))), (r.2.1, (r1.2.1, ()))))))))))))))
        (bd (F_runsRowPut k x2 (List.getD s0 (Int.toNat x1) zRC).2.1 (List.getD s0 (Int.toNat x1) zRC).2.2.1) (fun (r : ((Int) × (Unit)) × (((List (TRun)) × (Unit)) × (Unit))) => (bd (F_ref10RowPut k x3 (List.getD s0 (Int.toNat x1) zRC).2.1 (List.getD s0 (Int.toNat x1) zRC).2.2.1) (fun (r1 : ((Int) × (Unit)) × (((List (TItem)) × (Unit)) × (Unit))) => (br (r.1.1 != r1.1.1)
           (some (.ret (false, ()) (r.2.1, (r1.2.1, ()))))
           (both
            (bd (F_runsRowLen k r.2.1) (fun (r2 : ((Int) × (Unit)) × (Unit)) => (br (r2.1.1 != (((List.length r1.2.1.1) : Nat) : Int))
              (some (.ret (false, ()) (r.2.1, (r1.2.1, ()))))
              (L_law10RunsCalls_0 k s0 s1 s2 m (x0, ((IntKind.wrap (IntKind.i64) (x1 + (1 : Int))), (r.2.1, (r1.2.1, ()))))))))
            (bd (F_runsRowLen k r.2.1) (fun (r2 : ((Int) × (Unit)) × (Unit)) => (br (r2.1.1 != (((List.length r1.2.1.1) : Nat) : Int))
              (some (.ret (false, ()) (r.2.1, (r1.2.1, ()))))
              (L_law10RunsCalls_0 k s0 s1 s2 m (x0, ((IntKind.wrap (IntKind.i64) (x1 + (1 : Int))), (r.2.1, (r1.2.1, ())))))))))))))))))
     (both
      (bd (F_runsRowCut k x2 (List.getD s0 (Int.toNat x1) zRC).2.2.2.1) (fun (r : ((Int) × (Unit)) × (((List (TRun)) × (Unit)) × (Unit))) => (bd (F_ref10RowCut k x3 (List.getD s0 (Int.toNat x1) zRC).2.2.2.1) (fun (r1 : ((Int) × (Unit)) × (((List (TItem)) × (Unit)) × (Unit))) => (br (r.1.1 != r1.1.1)
         (some (.ret (false, ()) (r.2.1, (r1.2.1, ()))))
         (both
          (bd (F_runsRowLen k r.2.1) (fun (r2 : ((Int) × (Unit)) × (Unit)) => (br (r2.1.1 != (((List.length r1.2.1.1) : Nat) : Int))
            (some (.ret (false, ()) (r.2.1, (r1.2.1, ()))))
            (L_law10RunsCalls_0 k s0 s1 s2 m (x0, ((IntKind.wrap (IntKind.i64) (x1 + (1 : Int))), (r.2.1, (r1.2.1, ()))))))))
          (bd (F_runsRowLen k r.2.1) (fun (r2 : ((Int) × (Unit)) × (Unit)) => (br (r2.1.1 != (((List.length r1.2.1.1) : Nat) : Int))
            (some (.ret (false, ()) (r.2.1, (r1.2.1, ()))))
            (L_law10RunsCalls_0 k s0 s1 s2 m (x0, ((IntKind.wrap (IntKind.i64) (x1 + (1 : Int))), (r.2.1, (r1.2.1, ()))))))))))))))
      (bd (F_runsRowCut k x2 (List.getD s0 (Int.toNat x1) zRC).2.2.2.1) (fun (r : ((Int) × (Unit)) × (((List (TRun)) × (Unit)) × (Unit))) => (bd (F_ref10RowCut k x3 (List.getD s0 (Int.toNat x1) zRC).2.2.2.1) (fun (r1 : ((Int) × (Unit)) × (((List (TItem)) × (Unit)) × (Unit))) => (br (r.1.1 != r1.1.1)
         (some (.ret (false, ()) (r.2.1, (r1.2.1, ()))))
         (both
          (bd (F_runsRowLen k r.2.1) (fun (r2 : ((Int) × (Unit)) × (Unit)) => (br (r2.1.1 != (((List.length r1.2.1.1) : Nat) : Int))
            (some (.ret (false, ()) (r.2.1, (r1.2.1, ()))))
            (L_law10RunsCalls_0 k s0 s1 s2 m (x0, ((IntKind.wrap (IntKind.i64) (x1 + (1 : Int))), (r.2.1, (r1.2.1, ()))))))))
          (bd (F_runsRowLen k r.2.1) (fun (r2 : ((Int) × (Unit)) × (Unit)) => (br (r2.1.1 != (((List.length r1.2.1.1) : Nat) : Int))
            (some (.ret (false, ()) (r.2.1, (r1.2.1, ()))))
            (L_law10RunsCalls_0 k s0 s1 s2 m (x0, ((IntKind.wrap (IntKind.i64) (x1 + (1 : Int))), (r.2.1, (r1.2.1, ()))))))))))))))))
    none)
   (some (.brk (x0, (x1, (x2, (x3, ()))))))) by kernel_rfl).trans (by simp only [both_self])
theorem F_law10RunsCalls_step (k : Nat) (a0 : List (TRCall)) (a1 : Int) (a2 : TChar) : F_law10RunsCalls (k + 1) a0 a1 a2 =
  (bd (F_law10alive k ) (fun (r : ((Bool) × (Unit)) × (Unit)) => (br (!r.1.1)
    (some ((false, ()), ()))
    (bd (F_law10great k a0) (fun (r1 : ((Bool) × (Unit)) × (Unit)) => (br r1.1.1
      (some ((true, ()), ()))
      (bd (F_runsNew k ) (fun (r2 : (((List (TRun)) × (Unit)) × (Unit)) × (Unit)) => (bdL (L_law10RunsCalls_0 k a0 () () k (false, ((0 : Int), (r2.1.1, ((([] : List (TItem)), ()), ())))))
        (fun (b : (Bool) × ((Int) × (((List (TRun)) × (Unit)) × (((List (TItem)) × (Unit)) × (Unit))))) => (bd (F_runsRowFind k b.2.2.1 a2) (fun (r3 : ((Int) × ((Bool) × (Unit))) × (Unit)) => (bd (F_ref10RowFind k b.2.2.2.1 a2) (fun (r4 : ((Int) × ((Bool) × (Unit))) × (Unit)) => (bd (F_runsRowAt k b.2.2.1 a1) (fun (r5 : ((TItem) × ((Bool) × (Unit))) × (Unit)) => (br (decide (a1 ≥ (0 : Int)))
            (br (cond true (decide (a1 < (((List.length b.2.2.2.1.1) : Nat) : Int))) false)
             (br (inB a1 (List.length b.2.2.2.1.1))
              (br (cond (cond (cond (r3.1.1 == r4.1.1) (r3.1.2.1 == r4.1.2.1) false) (denEq (.pair (.pair (.int .i64) (.pair (.int .i64) .unit)) (.pair (.int .i64) (.pair (.int .i64) (.pair (.pair (.pair (.int .i64) (.pair (.int .i64) .unit)) (.pair (.int .i64) .unit)) (.pair (.pair (.pair (.int .i64) (.pair (.int .i64) .unit)) (.pair (.int .i64) .unit)) (.pair .bool (.pair .bool (.pair .str .unit)))))))) r5.1.1 (List.getD b.2.2.2.1.1 (Int.toNat a1) zItem)) false) (r5.1.2.1 == (cond true (decide (a1 < (((List.length b.2.2.2.1.1) : Nat) : Int))) false)) false)
               (bd (F_runsRowRuns k b.2.2.1) (fun (r6 : ((List (TItem)) × (Unit)) × (Unit)) => (bd (F_ref10RowRuns k b.2.2.2.1) (fun (r7 : ((List (TItem)) × (Unit)) × (Unit)) => (bd (F_ref00SameItems k r6.1.1 r7.1.1) (fun (r8 : ((Bool) × (Unit)) × (Unit)) => (br (cond true r8.1.1 false)
                   (bd (F_runsRowText k b.2.2.1) (fun (r9 : ((List (UInt8)) × (Unit)) × (Unit)) => (bd (F_ref10RowText k b.2.2.2.1) (fun (r10 : ((List (UInt8)) × (Unit)) × (Unit)) => (br (cond true (r9.1.1 == r10.1.1) false)
                      (bd (F_runsRowLive k b.2.2.1) (fun (r11 : ((Int) × (Unit)) × (Unit)) => (bd (F_ref10RowText k b.2.2.2.1) (fun (r12 : ((List (UInt8)) × (Unit)) × (Unit)) => (some (((cond true (r11.1.1 == (((List.length r12.1.1) : Nat) : Int)) false), ()), ()))))))
                      (some ((false, ()), ())))))))
                   (some ((false, ()), ())))))))))
               (some ((false, ()), ())))
              none)
             (br (cond (cond (cond (r3.1.1 == r4.1.1) (r3.1.2.1 == r4.1.2.1) false) (denEq (.pair (.pair (.int .i64) (.pair (.int .i64) .unit)) (.pair (.int .i64) (.pair (.int .i64) (.pair (.pair (.pair (.int .i64) (.pair (.int .i64) .unit)) (.pair (.int .i64) .unit)) (.pair (.pair (.pair (.int .i64) (.pair (.int .i64) .unit)) (.pair (.int .i64) .unit)) (.pair .bool (.pair .bool (.pair .str .unit)))))))) r5.1.1 (((0 : Int), ((0 : Int), (dflt._f .unit ()))), ((0 : Int), ((0 : Int), ((((0 : Int), ((0 : Int), (dflt._f .unit ()))), ((0 : Int), (dflt._f .unit ()))), ((((0 : Int), ((0 : Int), (dflt._f .unit ()))), ((0 : Int), (dflt._f .unit ()))), (false, (false, (([] : List UInt8), ()))))))))) false) (r5.1.2.1 == (cond true (decide (a1 < (((List.length b.2.2.2.1.1) : Nat) : Int))) false)) false)
              (bd (F_runsRowRuns k b.2.2.1) (fun (r6 : ((List (TItem)) × (Unit)) × (Unit)) => (bd (F_ref10RowRuns k b.2.2.2.1) (fun (r7 : ((List (TItem)) × (Unit)) × (Unit)) => (bd (F_ref00SameItems k r6.1.1 r7.1.1) (fun (r8 : ((Bool) × (Unit)) × (Unit)) => (br (cond true r8.1.1 false)
                  (bd (F_runsRowText k b.2.2.1) (fun (r9 : ((List (UInt8)) × (Unit)) × (Unit)) => (bd (F_ref10RowText k b.2.2.2.1) (fun (r10 : ((List (UInt8)) × (Unit)) × (Unit)) => (br (cond true (r9.1.1 == r10.1.1) false)
                     (bd (F_runsRowLive k b.2.2.1) (fun (r11 : ((Int) × (Unit)) × (Unit)) => (bd (F_ref10RowText k b.2.2.2.1) (fun (r12 : ((List (UInt8)) × (Unit)) × (Unit)) => (some (((cond true (r11.1.1 == (((List.length r12.1.1) : Nat) : Int)) false), ()), ()))))))
                     (some ((false, ()), ())))))))
                  (some ((false, ()), ())))))))))
              (some ((false, ()), ()))))
            (br (cond (cond (cond (r3.1.1 == r4.1.1) (r3.1.2.1 == r4.1.2.1) false) (denEq (.pair (.pair (.int .i64) (.pair (.int .i64) .unit)) (.pair (.int .i64) (.pair (.int .i64) (.pair (.pair (.pair (.int .i64) (.pair (.int .i64) .unit)) (.pair (.int .i64) .unit)) (.pair (.pair (.pair (.int .i64) (.pair (.int .i64) .unit)) (.pair (.int .i64) .unit)) (.pair .bool (.pair .bool (.pair .str .unit)))))))) r5.1.1 (((0 : Int), ((0 : Int), (dflt._f .unit ()))), ((0 : Int), ((0 : Int), ((((0 : Int), ((0 : Int), (dflt._f .unit ()))), ((0 : Int), (dflt._f .unit ()))), ((((0 : Int), ((0 : Int), (dflt._f .unit ()))), ((0 : Int), (dflt._f .unit ()))), (false, (false, (([] : List UInt8), ()))))))))) false) (r5.1.2.1 == false) false)
             (bd (F_runsRowRuns k b.2.2.1) (fun (r6 : ((List (TItem)) × (Unit)) × (Unit)) => (bd (F_ref10RowRuns k b.2.2.2.1) (fun (r7 : ((List (TItem)) × (Unit)) × (Unit)) => (bd (F_ref00SameItems k r6.1.1 r7.1.1) (fun (r8 : ((Bool) × (Unit)) × (Unit)) => (br (cond true r8.1.1 false)
                 (bd (F_runsRowText k b.2.2.1) (fun (r9 : ((List (UInt8)) × (Unit)) × (Unit)) => (bd (F_ref10RowText k b.2.2.2.1) (fun (r10 : ((List (UInt8)) × (Unit)) × (Unit)) => (br (cond true (r9.1.1 == r10.1.1) false)
                    (bd (F_runsRowLive k b.2.2.1) (fun (r11 : ((Int) × (Unit)) × (Unit)) => (bd (F_ref10RowText k b.2.2.2.1) (fun (r12 : ((List (UInt8)) × (Unit)) × (Unit)) => (some (((cond true (r11.1.1 == (((List.length r12.1.1) : Nat) : Int)) false), ()), ()))))))
                    (some ((false, ()), ())))))))
                 (some ((false, ()), ())))))))))
             (some ((false, ()), ())))))))))))
        (fun (j : Nat) => (fun (b : (Bool) × ((Int) × (((List (TRun)) × (Unit)) × (((List (TItem)) × (Unit)) × (Unit))))) => none))
        (fun (q : (Bool) × (Unit)) => (fun (b : ((List (TRun)) × (Unit)) × (((List (TItem)) × (Unit)) × (Unit))) => (some (q, ()))))))))))))) := by kernel_rfl
end Go.Proofs.Ythlpjdjipchdkaa.E

namespace Go.Proofs.Ythlpjdjipchdkaa.E
open Go
set_option linter.unusedSimpArgs false
set_option linter.unusedVariables false
theorem calls_loop (k : Nat) {a : List TRCall} (ha : a.length ≤ 100) (m : Nat) (hm : a.length < m) (hk : 10000 ≤ k) :
    L_law10RunsCalls_0 (k + 4) a () () m (false, (0, (((canon []).map mk, ()), ((([] : List Ch).map one, ()), ())))) = some (.brk (false, ((a.length : Int), (((canon (stC a)).map mk, ()), (((stC a).map one, ()), ()))))) := by
  have key := for_fold (L := fun m i cs => L_law10RunsCalls_0 (k + 4) a () () m (false, (i, (((canon cs).map mk, ()), ((cs.map one, ()), ()))))) (l := a) callC (fun cs => .brk (false, ((a.length : Int), (((canon cs).map mk, ()), ((cs.map one, ()), ())))))
    (fun i cs => Good cs ∧ cs.length ≤ 64 * i) (fun m i cs hi hI => by
      obtain ⟨hg, hl⟩ := hI
      have hcl := callC_len cs a[i]
      obtain ⟨p1, p2⟩ := Put_can k hg (by omega) a[i].2.1 a[i].2.2.1
      obtain ⟨c1, c2⟩ := Cut_can (k + 1) hg (by omega) a[i].2.2.2.1
      have q1 := F_ref10RowPut_eq (k + 2) cs (by omega) a[i].2.1 a[i].2.2.1
      have q2 := F_ref10RowCut_eq (k + 3) cs (by omega) a[i].2.2.2.1
      have hgc : Good (callC cs a[i]) := by
        unfold callC
        split
        · exact p2
        · exact c2
      refine ⟨?_, hgc, by omega⟩
      show L_law10RunsCalls_0 _ _ _ _ _ _ = _
      rw [L_law10RunsCalls_0_step, br_t (i_lt hi), br_t (i_in hi), getD_of hi, i_nx (by omega)]
      have hlen := F_runsRowLen_eq (k + 3) (hgc.sz (n := 9000) (by omega))
      rw [hgc.wf.2.2] at hlen
      by_cases h0 : a[i].1 = 0
      · have ec : callC cs a[i] = (putC cs a[i].2.1 a[i].2.2.1).2 := by unfold callC; rw [if_pos h0]
        rw [ec] at hlen ⊢
        rw [br_t (by simpa using h0), p1]
        simp only [bd_s]
        rw [q1]
        simp only [bd_s]
        rw [br_f (by simp), hlen]
        simp only [bd_s]
        rw [br_f (by simp)]
      · have ec : callC cs a[i] = cs.map (cutC a[i].2.2.2.1) := by unfold callC; rw [if_neg h0]
        rw [ec] at hlen ⊢
        rw [br_f (by simpa using h0), c1]
        simp only [bd_s]
        rw [q2]
        simp only [bd_s]
        rw [br_f (by simp), hlen]
        simp only [bd_s]
        rw [br_f (by simp)]) (fun m cs hI => by
      show L_law10RunsCalls_0 _ _ _ _ _ _ = _
      rw [L_law10RunsCalls_0_step, br_f (i_ge _)]) m [] hm ⟨good_nil, by simp⟩
  exact key
theorem F_law10RunsCalls_true (k : Nat) (a : List TRCall) (n : Int) (c : TChar) (hn : n < 9223372036854775808) (hk : 10000 ≤ k) : F_law10RunsCalls (k + 12) a n c = some ((true, ()), ()) := by
  rw [F_law10RunsCalls_step, F_law10alive_eq (k + 1) (by omega)]
  simp only [bd_s]
  rw [br_f (by simp)]
  obtain ⟨g, e, hg⟩ := F_law10great_eq (k + 10) a (by omega)
  rw [e]
  simp only [bd_s]
  cases g with
  | true => rfl
  | false =>
    rw [br_false, F_runsNew_eq]
    simp only [bd_s]
    have ha := hg rfl
    obtain ⟨s1, s2⟩ := stC_good ha
    refine Eq.trans (congrArg (fun z => bdL z _ _ _) (calls_loop (k + 7) ha _ (by omega) (by omega))) ?_
    simp only [bdL_b]
    have hs := s1.sz (n := 9000) (by omega)
    have hf := s1.wf.2.2
    have t1 := F_runsRowRuns_eq (k + 10) hs
    have t2 := F_ref10RowRuns_eq2 (k + 9) hs s1.wf.2.1
    rw [hf] at t2
    have t3 := F_ref00SameItems_eq (k + 10) (canon (stC a)) (canon (stC a)) hs.len
    rw [show decide (canon (stC a) = canon (stC a)) = true by simp] at t3
    have t4 := F_runsRowText_eq (k + 10) hs
    rw [hf] at t4
    have t5 := F_ref10RowText_eq (k + 10) (stC a) (by omega)
    have t6 := F_runsRowLive_eq (k + 9) hs
    rw [hf] at t6
    have t7 := F_runsRowFind_eq (k + 9) hs c
    rw [hf] at t7
    have t8 := F_ref10RowFind_eq (k + 10) (stC a) (by omega) c
    have t9 := F_runsRowAt_eq (k + 10) hs n hn
    rw [hf] at t9
    rw [t7, bd_s, t8, bd_s, t9, bd_s]
    generalize stC a = cs at *
    have htail : ∀ {F : Option ((Bool × Unit) × Unit)}, (bd (F_runsRowRuns (k + 11) ((canon cs).map mk, ())) (fun (r6 : ((List (TItem)) × (Unit)) × (Unit)) => (bd (F_ref10RowRuns (k + 11) (cs.map one, ())) (fun (r7 : ((List (TItem)) × (Unit)) × (Unit)) => (bd (F_ref00SameItems (k + 11) r6.1.1 r7.1.1) (fun (r8 : ((Bool) × (Unit)) × (Unit)) => (br (cond true r8.1.1 false)
                   (bd (F_runsRowText (k + 11) ((canon cs).map mk, ())) (fun (r9 : ((List (UInt8)) × (Unit)) × (Unit)) => (bd (F_ref10RowText (k + 11) (cs.map one, ())) (fun (r10 : ((List (UInt8)) × (Unit)) × (Unit)) => (br (cond true (r9.1.1 == r10.1.1) false)
                      (bd (F_runsRowLive (k + 11) ((canon cs).map mk, ())) (fun (r11 : ((Int) × (Unit)) × (Unit)) => (bd (F_ref10RowText (k + 11) (cs.map one, ())) (fun (r12 : ((List (UInt8)) × (Unit)) × (Unit)) => (some (((cond true (r11.1.1 == (((List.length r12.1.1) : Nat) : Int)) false), ()), ()))))))
                      F)))))
                   F))))))) = some ((true, ()), ()) := by
      intro F
      rw [t1, bd_s, t2, bd_s, t3, bd_s, br_t (by rfl), t4, bd_s, t5, bd_s, br_t (by simp), t6, bd_s, bd_s]
      simp
    by_cases h0 : n < 0
    · rw [if_pos h0, br_f (by simp; omega), br_t]
      · exact htail
      · simp only [cond_f]
        have e1 := eqItem (ansA none).1 (((0 : Int), ((0 : Int), (dflt._f .unit ()))), ((0 : Int), ((0 : Int), ((((0 : Int), ((0 : Int), (dflt._f .unit ()))), ((0 : Int), (dflt._f .unit ()))), ((((0 : Int), ((0 : Int), (dflt._f .unit ()))), ((0 : Int), (dflt._f .unit ()))), (false, (false, (([] : List UInt8), ()))))))))
        rw [e1]
        simp [ansA]
        rfl
    · rw [if_neg h0, br_t (by simp; omega)]
      by_cases h1 : n < (cs.length : Int)
      · have hi : n.toNat < cs.length := by omega
        have hnn : n = ((n.toNat : Nat) : Int) := by omega
        rw [br_t (by simpa using h1), br_t (by rw [List.length_map]; exact inB_t ⟨by omega, h1⟩), br_t]
        · exact htail
        · have hget : List.getD (cs.map one) n.toNat zItem = one cs[n.toNat] := by
            rw [List.getD_eq_getElem?_getD, List.getElem?_map, List.getElem?_eq_getElem hi]; rfl
          dsimp only
          rw [hget, List.getElem?_eq_getElem hi]
          simp only [cond_f]
          have e1 := eqItem (ansA (some cs[n.toNat])).1 (one cs[n.toNat])
          rw [e1]
          simp [ansA, h1]
      · rw [br_f (by simpa using h1), br_t]
        · exact htail
        · have hno : cs[n.toNat]? = none := List.getElem?_eq_none (by omega)
          rw [hno]
          simp only [cond_f]
          have e1 := eqItem (ansA none).1 (((0 : Int), ((0 : Int), (dflt._f .unit ()))), ((0 : Int), ((0 : Int), ((((0 : Int), ((0 : Int), (dflt._f .unit ()))), ((0 : Int), (dflt._f .unit ()))), ((((0 : Int), ((0 : Int), (dflt._f .unit ()))), ((0 : Int), (dflt._f .unit ()))), (false, (false, (([] : List UInt8), ()))))))))
          rw [e1]
          simp [ansA]
          exact ⟨rfl, by omega⟩
end Go.Proofs.Ythlpjdjipchdkaa.E

