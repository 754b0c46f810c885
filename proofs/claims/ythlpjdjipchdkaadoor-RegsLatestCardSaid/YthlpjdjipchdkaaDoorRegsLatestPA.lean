/- The forms of the functions, and plain laws on what they come to. No condition. -/
import Derived.Test.YthlpjdjipchdkaaDoorRegsLatestGE
import Derived.Shelf.Small.Wraps
import Derived.Shelf.SlSortCmp.NoneTotal
import Derived.Shelf.SlGeneric
import Derived.Ground.SlsfProg
import Derived.Ground.NamesProg
import Derived.Test.YthlpjdjipchdkaaDoorProg
import Derived.StillTailTactics
import Derived.WalkKit
import Derived.KernelRfl
import Derived.Below
import Derived.Laws.AppendOwn
import Derived.Maps.RangeRun
import Derived.WalkSmall
import Derived.Laws.OwnMore
import Derived.OwnWalk
import Derived.Maps.Range
import Derived.IntWalk

/-
  DERIVED: THE SHELF's CONTRACTS AT THIS DUMP, IN PLAIN WORDS (tools/lay-plain.mjs out of 'TrydShelf.lean', which tools/lay-shelf.mjs wrote): THE SAME DECLARATIONS UNDER THE SAME NAMES: 'import', 'namespace', 'open', 'def', 'theorem' AND NOTHING ELSE: no command of the shelf's: FOR A HAND-IN. Each laying: the table of numbers ('.._ren') and one theorem, a field a fact of the dump's own or the kernel's comparison; each contract: ONE APPLICATION.
-/
namespace Go.Proofs
open Go.Shelf
def Tryd.sortId_ren : Go.Shelf.Ren := ⟨fun | 6 => 44 | 15 => 72 | 14 => 71 | 28 => 90 | 29 => 91 | 20 => 82 | 21 => 83 | 22 => 84 | 23 => 85 | 24 => 86 | 25 => 87 | 26 => 88 | 27 => 89 | 46 => 96 | 47 => 97 | 48 => 98 | 49 => 99 | 50 => 100 | 57 => 102 | n => n, fun | 22 => 41 | 24 => 24 | 25 => 83 | 3 => 3 | 39 => 119 | 0 => 0 | 53 => 136 | 55 => 138 | 4 => 4 | 46 => 130 | 45 => 129 | 50 => 91 | 5 => 5 | 9 => 9 | 66 => 142 | 70 => 146 | 76 => 149 | 77 => 150 | n => n, fun | n => n⟩
theorem Tryd.sortId : Go.Proofs.SlLaysF0.n6 Tryd.prog Tryd.sortId_ren := {
  mixed := by kernel_rfl
  f6 := ⟨Tryd.f44.name, by decide, Tryd.func44.trans (congrArg some (by kernel_rfl))⟩
  f14 := ⟨Tryd.f71.name, by decide, Tryd.func71.trans (congrArg some (by kernel_rfl))⟩
  f15 := Tryd.func72.trans (congrArg some (by kernel_rfl))
  f20 := ⟨Tryd.f82.name, by decide, Tryd.func82.trans (congrArg some (by kernel_rfl))⟩
  f21 := ⟨Tryd.f83.name, by decide, Tryd.func83.trans (congrArg some (by kernel_rfl))⟩
  f22 := ⟨Tryd.f84.name, by decide, Tryd.func84.trans (congrArg some (by kernel_rfl))⟩
  f23 := ⟨Tryd.f85.name, by decide, Tryd.func85.trans (congrArg some (by kernel_rfl))⟩
  f24 := ⟨Tryd.f86.name, by decide, Tryd.func86.trans (congrArg some (by kernel_rfl))⟩
  f25 := ⟨Tryd.f87.name, by decide, Tryd.func87.trans (congrArg some (by kernel_rfl))⟩
  f26 := ⟨Tryd.f88.name, by decide, Tryd.func88.trans (congrArg some (by kernel_rfl))⟩
  f27 := ⟨Tryd.f89.name, by decide, Tryd.func89.trans (congrArg some (by kernel_rfl))⟩
  f28 := Tryd.func90.trans (congrArg some (by kernel_rfl))
  f29 := Tryd.func91.trans (congrArg some (by kernel_rfl))
  f46 := ⟨Tryd.f96.name, by decide, Tryd.func96.trans (congrArg some (by kernel_rfl))⟩
  f47 := Tryd.func97.trans (congrArg some (by kernel_rfl))
  f48 := Tryd.func98.trans (congrArg some (by kernel_rfl))
  f49 := ⟨Tryd.f99.name, by decide, Tryd.func99.trans (congrArg some (by kernel_rfl))⟩
  f50 := ⟨Tryd.f100.name, by decide, Tryd.func100.trans (congrArg some (by kernel_rfl))⟩
  f57 := ⟨Tryd.f102.name, by decide, Tryd.func102.trans (congrArg some (by kernel_rfl))⟩
  t0 := Tryd.underlying0
  a0 := Tryd.isAgg0
  z0 := Tryd.sizeOf0
  v0 := Tryd.zeroValue0
  t3 := Tryd.underlying3
  a3 := Tryd.isAgg3
  z3 := Tryd.sizeOf3
  v3 := Tryd.zeroValue3
  t4 := Tryd.underlying4
  a4 := Tryd.isAgg4
  z4 := Tryd.sizeOf4
  v4 := Tryd.zeroValue4
  t5 := Tryd.underlying5
  a5 := Tryd.isAgg5
  z5 := Tryd.sizeOf5
  v5 := Tryd.zeroValue5
  t9 := Tryd.underlying9
  a9 := Tryd.isAgg9
  z9 := Tryd.sizeOf9
  v9 := Tryd.zeroValue9
  t22 := Tryd.underlying41
  a22 := Tryd.isAgg41
  z22 := Tryd.sizeOf41
  v22 := Tryd.zeroValue41
  t25 := Tryd.underlying83
  a25 := Tryd.isAgg83
  z25 := Tryd.sizeOf83
  v25 := Tryd.zeroValue83
  t39 := Tryd.underlying119
  a39 := Tryd.isAgg119
  z39 := Tryd.sizeOf119
  v39 := Tryd.zeroValue119
  t45 := Tryd.underlying129
  a45 := Tryd.isAgg129
  z45 := Tryd.sizeOf129
  v45 := Tryd.zeroValue129
  t46 := Tryd.underlying130
  a46 := Tryd.isAgg130
  z46 := Tryd.sizeOf130
  v46 := Tryd.zeroValue130
  t50 := Tryd.underlying91
  a50 := Tryd.isAgg91
  z50 := Tryd.sizeOf91
  v50 := Tryd.zeroValue91
  t53 := Tryd.underlying136
  a53 := Tryd.isAgg136
  z53 := Tryd.sizeOf136
  v53 := Tryd.zeroValue136
  t55 := Tryd.underlying138
  a55 := Tryd.isAgg138
  z55 := Tryd.sizeOf138
  v55 := Tryd.zeroValue138
  t66 := Tryd.underlying142
  a66 := Tryd.isAgg142
  z66 := Tryd.sizeOf142
  v66 := Tryd.zeroValue142
  t70 := Tryd.underlying146
  a70 := Tryd.isAgg146
  z70 := Tryd.sizeOf146
  v70 := Tryd.zeroValue146
  t76 := Tryd.underlying149
  a76 := Tryd.isAgg149
  z76 := Tryd.sizeOf149
  v76 := Tryd.zeroValue149
  t77 := Tryd.underlying150
  a77 := Tryd.isAgg150
  z77 := Tryd.sizeOf150
  v77 := Tryd.zeroValue150 }
def Tryd.lays122_ren : Go.Shelf.Ren := ⟨fun | 122 => 73 | 215 => 92 | n => n, fun | 3 => 3 | 4 => 4 | n => n, fun | n => n⟩
theorem Tryd.lays122 : Go.Proofs.Lays.n122 Tryd.prog Tryd.lays122_ren := {
  mixed := by kernel_rfl
  f122 := Tryd.func73.trans (congrArg some (by kernel_rfl))
  f215 := Tryd.func92.trans (congrArg some (by kernel_rfl))
  t3 := Tryd.underlying3
  a3 := Tryd.isAgg3
  z3 := Tryd.sizeOf3
  v3 := Tryd.zeroValue3
  t4 := Tryd.underlying4
  a4 := Tryd.isAgg4
  z4 := Tryd.sizeOf4
  v4 := Tryd.zeroValue4 }
open Go.RowKit in
theorem Tryd.cmp_Compare_int (x y : Int) (w : World) :
    Calls Tryd.prog 73 #[.int .i64 x, .int .i64 y] w fun e w' => e = .returned (.int .i64 (Lib.compareInt x y)) ∧ w' = w := Any.cmp_Compare_int Tryd.lays122 x y w
end Go.Proofs

namespace Go.Proofs.YthlpjdjipchdkaaDoor.E
open Go Go.Proofs
set_option linter.unusedSimpArgs false
set_option linter.unusedVariables false
abbrev HId := Int × Int × Unit
abbrev HWord := Bool × HId × HId × Unit
abbrev tId : Ty := .pair (.int .i64) (.pair (.int .i64) .unit)
abbrev tWord : Ty := .pair .bool (.pair tId (.pair tId .unit))
def ordI (a b : HId) : Int := if a.1 < b.1 then -1 else if b.1 < a.1 then 1 else if a.2.1 < b.2.1 then -1 else if b.2.1 < a.2.1 then 1 else 0
def leI (x y : HId) : Bool := !decide (ordI y x < 0)
def allOf (es : List (HId × HWord)) : List HId := ((es.filter (·.2.1)).map (·.1)).mergeSort leI
def hAll : HandE :=
  ⟨⟨[(true, .ref false (.pair (.map true tId tWord) .unit))], [.sl true tId]⟩, fun a => match a with
    | ((es, _), _) => br (decide (List.length es ≤ 2 ^ 40)) (some ((allOf es, ()), ())) none⟩
end Go.Proofs.YthlpjdjipchdkaaDoor.E

namespace Go.Proofs.YthlpjdjipchdkaaDoor.E
open Go Go.Proofs Go.Shelf Go.RowKit Go.Lib Go.Sort
set_option linter.unusedSimpArgs false
set_option linter.unusedVariables false
set_option maxHeartbeats 4000000 in
set_option maxRecDepth 1000000 in
theorem or68 (b c : Nat) (x y : Int) (W : World) (h0 : W.cell? ⟨b, 0, none⟩ = some (.int .i64 x)) (h1 : W.cell? ⟨b, 1, none⟩ = some (.int .i64 y)) :
    Calls Tryd.prog 68 #[.slice (some ⟨b, 0, none⟩) 2 c] W fun e w' => e = .returned (.int .i64 (if x = 0 then y else x)) ∧ w' = W := by
  go_enter Tryd.func68, Tryd.ntmps68
  go_wp2
  refine wp_loop_rounds 3 ?_
  rw [rounds_succ]
  by_cases hx : x = 0
  · subst hx
    go_wp2
    rw [rounds_succ]
    by_cases hy : y = 0
    · subst hy
      go_wp2
      rw [rounds_succ]
      go_wp2
      go_ret
      exact ⟨rfl, rfl⟩
    · go_wp2
      go_ret
      exact ⟨by simp, rfl⟩
  · go_wp2
    go_ret
    exact ⟨by simp [hx], rfl⟩
theorem ordI_or (a b : HId) : (if Lib.compareInt a.1 b.1 = 0 then Lib.compareInt a.2.1 b.2.1 else Lib.compareInt a.1 b.1) = ordI a b := by
  unfold Lib.compareInt ordI
  by_cases h1 : a.1 < b.1
  · simp [h1]
  · by_cases h2 : b.1 < a.1
    · simp [h1, h2]
    · simp [h1, h2]
set_option maxHeartbeats 4000000 in
set_option maxRecDepth 1000000 in
theorem ord45 (a b : HId) (W : World) : Calls Tryd.prog 45 #[.agg #[.int .i64 a.1, .int .i64 a.2.1], .agg #[.int .i64 b.1, .int .i64 b.2.1]] W fun e w' => e = .returned (.int .i64 (ordI a b)) ∧ ∃ q os', w' = grow (W.drewN q) os' := by
  have mixed : Tryd.prog.follows .mixedOrders = true := by kernel_rfl
  rw [← ordI_or]
  have h73 := fun x y W => Tryd.cmp_Compare_int x y W
  generalize hx : Lib.compareInt a.1 b.1 = x
  generalize hy : Lib.compareInt a.2.1 b.2.1 = y
  have h1 := fun W => h73 a.1 b.1 W
  have h2 := fun W => h73 a.2.1 b.2.1 W
  rw [hx] at h1
  rw [hy] at h2
  clear h73
  generalize hr : (if x = 0 then y else x) = r
  go_enter Tryd.func45, Tryd.ntmps45
  go_wp2
  refine wp_region_still_tail 10 mixed (by kernel_rfl) ?_
  simp only [List.take_succ_cons, List.take_zero, List.drop_succ_cons, List.drop_zero]
  change wpStill _ _ ((W.alloc (.cells #[.int .i64 a.1, .int .i64 a.2.1] 24)).alloc (.cells #[.int .i64 b.1, .int .i64 b.2.1] 24)).drew (fun a' => wpList _ _ _ _ a' ((W.alloc (.cells #[.int .i64 a.1, .int .i64 a.2.1] 24)).alloc (.cells #[.int .i64 b.1, .int .i64 b.2.1] 24)).drew) _ _
  obtain ⟨W2, hW2⟩ : ∃ W2, W2 = ((W.alloc (.cells #[.int .i64 a.1, .int .i64 a.2.1] 24)).alloc (.cells #[.int .i64 b.1, .int .i64 b.2.1] 24)).drew := ⟨_, rfl⟩
  have hbA : W2.heap[W.heap.size]? = some (.cells #[.int .i64 a.1, .int .i64 a.2.1] 24) := by
    rw [hW2]
    show ((W.alloc (.cells #[.int .i64 a.1, .int .i64 a.2.1] 24)).alloc (.cells #[.int .i64 b.1, .int .i64 b.2.1] 24)).heap[W.heap.size]? = _
    rw [heap_alloc_old _ _ (by simp), heap_alloc_new]
  have hbB : W2.heap[W.heap.size + 1]? = some (.cells #[.int .i64 b.1, .int .i64 b.2.1] 24) := by
    rw [hW2]
    show ((W.alloc (.cells #[.int .i64 a.1, .int .i64 a.2.1] 24)).alloc (.cells #[.int .i64 b.1, .int .i64 b.2.1] 24)).heap[W.heap.size + 1]? = _
    have := heap_alloc_new (W.alloc (.cells #[.int .i64 a.1, .int .i64 a.2.1] 24)) (.cells #[.int .i64 b.1, .int .i64 b.2.1] 24)
    rwa [World.size_alloc] at this
  have c0 : W2.cell? ⟨W.heap.size, 0, none⟩ = some (.int .i64 a.1) := cell_of_row W2 _ 0 _ _ _ hbA
  have c1 : W2.cell? ⟨W.heap.size, 1, none⟩ = some (.int .i64 a.2.1) := cell_of_row W2 _ 1 _ _ _ hbA
  have c2 : W2.cell? ⟨W.heap.size + 1, 0, none⟩ = some (.int .i64 b.1) := cell_of_row W2 _ 0 _ _ _ hbB
  have c3 : W2.cell? ⟨W.heap.size + 1, 1, none⟩ = some (.int .i64 b.2.1) := cell_of_row W2 _ 1 _ _ _ hbB
  have hg : ∃ q os', W2 = grow (W.drewN q) os' := ⟨1, _, by rw [hW2, alloc_eq_grow, alloc_eq_grow, grow_grow]; rfl⟩
  rw [← hW2]
  clear hW2 hbA hbB
  repeat still_step
  still_call (h1 _)
  repeat still_step
  still_call (h2 _)
  repeat still_step
  try refine wpStill_nil ?_
  have h68 := or68 W2.heap.size 2 x y (W2.alloc (.cells #[.int .i64 x, .int .i64 y] 3)) (cell_of_row _ _ 0 _ _ _ (heap_alloc_new _ _)) (cell_of_row _ _ 1 _ _ _ (heap_alloc_new _ _))
  clear c0 c1 c2 c3 h1 h2
  have hgg : ∃ q os', W2.alloc (.cells #[.int .i64 x, .int .i64 y] 3) = grow (W.drewN q) os' := by
    obtain ⟨q, os', hg⟩ := hg
    exact ⟨q, _, by rw [hg, alloc_eq_grow, grow_grow]⟩
  rw [hr] at h68
  clear hr hx hy
  go_wp2_with (go_at_call 68; refine h68.mono ?_; rintro e w' ⟨rfl, rfl⟩)
  go_ret
  exact ⟨rfl, hgg⟩
end Go.Proofs.YthlpjdjipchdkaaDoor.E

namespace Go.Proofs.YthlpjdjipchdkaaDoor.E
open Go Go.Proofs Go.Shelf Go.RowKit Go.Lib Go.Sort
set_option linter.unusedSimpArgs false
set_option linter.unusedVariables false
def idC (x : HId) : List Value := [.int .i64 x.1, .int .i64 x.2.1]
def rowOf (l : List HId) : List Value := (l.map idC).flatten
theorem rowOf_get : ∀ (l : List HId) (t : Nat), (rowOf l)[t]? = (l[t / 2]?).bind fun x => (idC x)[t % 2]?
  | [], t => by simp [rowOf]
  | x :: l, 0 => by simp [rowOf, idC]
  | x :: l, 1 => by simp [rowOf, idC]
  | x :: l, t + 2 => by
    have e : rowOf (x :: l) = .int .i64 x.1 :: .int .i64 x.2.1 :: rowOf l := by simp [rowOf, idC]
    rw [e, List.getElem?_cons_succ, List.getElem?_cons_succ, rowOf_get l t, show (t + 2) / 2 = t / 2 + 1 by omega, show (t + 2) % 2 = t % 2 by omega, List.getElem?_cons_succ]
theorem rowOf_len (l : List HId) : (rowOf l).length = l.length * 2 := by
  induction l with
  | nil => rfl
  | cons x l ih =>
    have e : rowOf (x :: l) = .int .i64 x.1 :: .int .i64 x.2.1 :: rowOf l := by simp [rowOf, idC]
    rw [e]; simp [ih]; omega
instance : Inhabited HId := ⟨(0, 0, ())⟩
theorem flatK_row (l : List HId) : (flatK idC 2 l.toArray).toList = rowOf l := by
  apply List.ext_getElem?
  intro t
  rw [rowOf_get]
  unfold flatK
  by_cases h : t < l.length * 2
  · have h2 : t / 2 < l.length := by omega
    rw [List.getElem?_eq_getElem h2]
    have h3 : t % 2 < (idC l[t / 2]).length := by simp [idC]; omega
    simp only [List.size_toArray, Array.getElem?_toList, Array.getElem?_map, Option.bind_some]
    rw [Array.getElem?_eq_getElem (by simpa using h), Array.getElem_range, Option.map_some, List.getElem?_eq_getElem h3]
    congr 1
    rw [getElem!_pos l.toArray (t / 2) (by simpa using h2)]
    rw [getElem!_pos _ (t % 2) (by simpa using h3)]
    rfl
  · rw [List.getElem?_eq_none (l := l) (by omega)]
    simp only [Option.bind_none]
    rw [List.getElem?_eq_none]
    simp; omega
theorem sortW_other {w : World} {g m : Nat} {d : Array HId} {os : Array Obj} {b : Nat} (hb : b ≠ g) (hlt : b < w.heap.size) : (sortWorldK idC 2 w g 0 m d os).heap[b]? = w.heap[b]? := by
  show ((w.heap.modify g (onCells (putCells id 0 (flatK idC 2 d)))) ++ os)[b]? = _
  rw [Array.getElem?_append_left (by simpa using hlt), Array.getElem?_modify, if_neg (Ne.symm hb)]
theorem sortW_self {w : World} {g m : Nat} {d : Array HId} {os : Array Obj} {arr : Array Value} {e : TypeId} {fr : Nat × Nat} (hg : w.heap[g]? = some (.cells arr e fr)) :
    (sortWorldK idC 2 w g 0 m d os).heap[g]? = some (.cells (putCells id 0 (flatK idC 2 d) arr) e fr) := by
  have hlt := (Array.getElem?_eq_some_iff.1 hg).1
  show ((w.heap.modify g (onCells (putCells id 0 (flatK idC 2 d)))) ++ os)[g]? = _
  rw [Array.getElem?_append_left (by simpa using hlt), Array.getElem?_modify, if_pos rfl, hg]
  rfl
theorem putCells_take (F arr : Array Value) (h : F.size ≤ arr.size) : (putCells id 0 F arr).toList.take F.size = F.toList := by
  apply List.ext_getElem?
  intro t
  rw [List.getElem?_take]
  by_cases ht : t < F.size
  · rw [if_pos ht]
    simp only [putCells, Array.getElem?_toList, Array.getElem?_mapIdx]
    rw [Array.getElem?_eq_getElem (by omega : t < arr.size), Option.map_some, if_pos ⟨by omega, by omega⟩, Array.getElem?_eq_getElem ht]
    simp only [Nat.sub_zero, id]
    rw [getElem!_pos F t ht]
  · rw [if_neg ht, List.getElem?_eq_none (by simpa using ht)]
theorem leI_total (x y : HId) : ordI x y < 0 ∨ ordI y x < 0 ∨ x = y := by
  obtain ⟨a, b, u⟩ := x
  obtain ⟨c, d, v⟩ := y
  unfold ordI
  simp only
  by_cases h1 : a < c
  · simp [h1]
  · by_cases h2 : c < a
    · simp [h1, h2]
    · have : a = c := by omega
      subst this
      by_cases h3 : b < d
      · simp [h3]
      · by_cases h4 : d < b
        · simp [h4]
        · have : b = d := by omega
          subst this
          simp
theorem ordI_lt (x y : HId) : ordI x y < 0 ↔ x.1 < y.1 ∨ (x.1 = y.1 ∧ x.2.1 < y.2.1) := by
  unfold ordI
  by_cases h1 : x.1 < y.1
  · simp [h1]
  · by_cases h2 : y.1 < x.1
    · simp [h1, h2]; omega
    · by_cases h3 : x.2.1 < y.2.1
      · simp [h1, h2, h3]; omega
      · by_cases h4 : y.2.1 < x.2.1
        · simp [h1, h2, h3, h4]
        · simp [h1, h2, h3, h4]
theorem swoI : SWO (ltOf ordI) where
  irrefl x := by
    simp only [ltOf, decide_eq_false_iff_not, ordI_lt]; omega
  trans x y z h1 h2 := by
    simp only [ltOf, decide_eq_true_eq, ordI_lt] at *; omega
  ntrans x y z h1 h2 := by
    simp only [ltOf, decide_eq_false_iff_not, ordI_lt] at *; omega
theorem totI (x y : HId) (h1 : ltOf ordI x y = false) (h2 : ltOf ordI y x = false) : x = y := by
  simp only [ltOf, decide_eq_false_iff_not] at h1 h2
  rcases leI_total x y with h | h | h
  · exact absurd h h1
  · exact absurd h h2
  · exact h
theorem leI_trans (a b c : HId) (h1 : leI a b = true) (h2 : leI b c = true) : leI a c = true := by
  simp only [leI, Bool.not_eq_true', decide_eq_false_iff_not, ordI_lt] at *; omega
theorem leI_tot (a b : HId) : (leI a b || leI b a) = true := by
  simp only [leI, Bool.or_eq_true, Bool.not_eq_true', decide_eq_false_iff_not, ordI_lt]; omega
theorem leI_anti (a b : HId) (h1 : leI a b = true) (h2 : leI b a = true) : a = b := by
  simp only [leI, Bool.not_eq_true', decide_eq_false_iff_not] at h1 h2
  rcases leI_total a b with h | h | h
  · exact absurd h h2
  · exact absurd h h1
  · exact h
theorem sort_perm {a b : List HId} (h : a.Perm b) : a.mergeSort leI = b.mergeSort leI := by
  have h1 := List.pairwise_mergeSort (le := leI) leI_trans leI_tot a
  have h2 := List.pairwise_mergeSort (le := leI) leI_trans leI_tot b
  have hp : (a.mergeSort leI).Perm (b.mergeSort leI) := ((List.mergeSort_perm a leI).trans h).trans (List.mergeSort_perm b leI).symm
  exact List.Perm.eq_of_pairwise (fun x y _ _ h1 h2 => leI_anti x y h1 h2) h1 h2 hp
end Go.Proofs.YthlpjdjipchdkaaDoor.E

namespace Go.Proofs.YthlpjdjipchdkaaDoor.E
open Go Go.Proofs Go.Shelf Go.RowKit Go.Lib Go.Sort
set_option linter.unusedSimpArgs false
set_option linter.unusedVariables false
theorem sort44 (base g cap : Nat) (o : List HId) (w : World) (hown : w.ownsRow base 24 2 (.slice (some ⟨g, 0, none⟩) o.length cap) o.length (rowOf o)) (ho : o.length < 4611686018427387904) (B : Nat) (hB : B ≤ base) :
    Calls Tryd.prog 44 #[.slice (some ⟨g, 0, none⟩) o.length cap, .func (.func 45) #[] #[]] w fun e w' => e = .returned (.tuple #[]) ∧ w'.ownsRow base 24 2 (.slice (some ⟨g, 0, none⟩) o.length cap) (o.mergeSort leI).length (rowOf (o.mergeSort leI)) ∧ Below B w w' := by
  have eg : ∀ args w, (callFunc 45 args).run Tryd.prog w = .ok (.enter 45 args) w := enters_of Tryd.func45 (by kernel_rfl) rfl
  have hlen : (flatK idC 2 o.toArray).size = o.length * 2 := by rw [← Array.length_toList, flatK_row, rowOf_len]
  have hH : HoldsK idC 2 w g 0 o.toArray := by
    intro j hj
    rw [hlen] at hj
    rw [Nat.zero_add]
    refine ⟨?_, hown.frozenAt j⟩
    rw [hown.cellAt j hj, ← flatK_row, Array.getElem?_toList, Array.getElem?_eq_getElem (by rw [hlen]; exact hj), getElem!_pos _ j (by rw [hlen]; exact hj)]
    rfl
  have hown' := hown
  obtain ⟨_, h2⟩ := hown'
  rcases h2 with ⟨h0, _⟩ | ⟨g', cap', cur, hv, hbg, hg, hn, hcm, hsz, htake⟩
  · cases h0
  cases hv
  have hlt := (Array.getElem?_eq_some_iff.1 hg).1
  have hc := AnyQ.slices_SortFunc_total Tryd.sortId 2 Tryd.isAgg24 Tryd.sizeOf24 idC (fun _ => rfl) (fun x v hv => by simp [idC] at hv; rcases hv with rfl | rfl <;> rfl) ordI swoI 45 #[] g 0 cap o.toArray w eg
    (fun m os dk _ x y => ord45 x y _) hH hlt (by simpa using ho) totI
  change Calls Tryd.prog 44 _ _ _ at hc
  simp only [List.size_toArray, List.toList_toArray] at hc
  refine hc.mono ?_
  rintro e w' ⟨rfl, m, os, rfl⟩
  have hml : (o.mergeSort leI).length = o.length := (List.mergeSort_perm o leI).length_eq
  have hfs : (flatK idC 2 (o.mergeSort leI).toArray).size = o.length * 2 := by rw [← Array.length_toList, flatK_row, rowOf_len, hml]
  refine ⟨rfl, ?_, ?_⟩
  · rw [hml]
    refine ⟨by rw [rowOf_len, hml], .inr ⟨g, cap, putCells id 0 (flatK idC 2 (o.mergeSort leI).toArray) cur, rfl, hbg, sortW_self hg, hn, hcm, by simp [putCells, hsz], ?_⟩⟩
    have := putCells_take (flatK idC 2 (o.mergeSort leI).toArray) cur (by rw [hfs, hsz]; omega)
    rw [hfs] at this
    rw [this, flatK_row]
  · refine ⟨rfl, rfl, rfl, ?_, fun k hk => sortW_other (by omega) (by omega)⟩
    show w.heap.size ≤ ((w.heap.modify g (onCells (putCells id 0 (flatK idC 2 (o.mergeSort leI).toArray)))) ++ os).size
    simp
theorem sort44_none (a : Option Addr) (cap : Nat) (w : World) : Calls Tryd.prog 44 #[.slice a 0 cap, .func (.func 45) #[] #[]] w fun e w' => e = .returned (.tuple #[]) ∧ w' = w :=
  AnyF.slices_SortFunc_none { Tryd.sortId with } a cap _ w
end Go.Proofs.YthlpjdjipchdkaaDoor.E

namespace Go.Proofs.YthlpjdjipchdkaaDoor.E
open Go Go.Proofs Go.Shelf Go.RowKit Go.Lib Go.Sort
set_option linter.unusedSimpArgs false
set_option linter.unusedVariables false
def wdC (v : HWord) : List Value := [.bool v.1, .int .i64 v.2.1.1, .int .i64 v.2.1.2.1, .int .i64 v.2.2.1.1, .int .i64 v.2.2.1.2.1]
def onV : Value → Bool
  | .agg a => match a.toList with | .bool b :: _ => b | _ => false
  | _ => false
def idV : Value → HId
  | .agg a => match a.toList with | .int _ r :: .int _ n :: _ => (r, n, ()) | _ => (0, 0, ())
  | _ => (0, 0, ())
theorem onV_wd (v : HWord) : onV (.agg (wdC v).toArray) = v.1 := by simp [onV, wdC]
theorem idV_id (x : HId) : idV (.agg (idC x).toArray) = x := by simp [idV, idC]
def pick (es : Array MapEntry) (seen : Array Nat) : List HId := (es.toList.filter fun e => seen.contains e.born && onV e.val).map fun e => idV e.key
theorem pick_nil (es : Array MapEntry) : pick es #[] = [] := by simp [pick]
theorem pick_push {es : Array MapEntry} {seen : Array Nat} {e : MapEntry} (hn : (es.toList.map (·.born)).Nodup) (he : e ∈ es.toList) (hs : seen.contains e.born = false) :
    (pick es (seen.push e.born)).Perm (if onV e.val = true then idV e.key :: pick es seen else pick es seen) := by
  obtain ⟨L1, L2, hL⟩ := List.append_of_mem he
  unfold pick
  rw [hL] at hn ⊢
  simp only [List.map_append, List.map_cons, List.nodup_append, List.nodup_cons, List.mem_map, List.mem_cons] at hn
  obtain ⟨_, ⟨h2, _⟩, h3⟩ := hn
  have f1 : L1.filter (fun x => (seen.push e.born).contains x.born && onV x.val) = L1.filter (fun x => seen.contains x.born && onV x.val) := by
    apply List.filter_congr
    intro x hx
    have : x.born ≠ e.born := fun h => h3 _ ⟨x, hx, rfl⟩ _ (.inl rfl) h
    simp [this]
  have f2 : L2.filter (fun x => (seen.push e.born).contains x.born && onV x.val) = L2.filter (fun x => seen.contains x.born && onV x.val) := by
    apply List.filter_congr
    intro x hx
    have : x.born ≠ e.born := fun h => h2 ⟨x, hx, h⟩
    simp [this]
  rw [List.filter_append, List.filter_cons, f1, f2, List.filter_append, List.filter_cons]
  rw [hs]
  simp only [Array.contains_push, beq_self_eq_true, Bool.or_true, Bool.true_and, Bool.false_and, Bool.false_eq_true, if_false]
  cases onV e.val with
  | true =>
    simp only [if_true, List.map_append, List.map_cons]
    exact List.perm_middle
  | false => simp
theorem pick_all {es : Array MapEntry} {seen : Array Nat} (h0 : (leftOf es seen).size = 0) : pick es seen = (es.toList.filter fun e => onV e.val).map fun e => idV e.key := by
  unfold pick
  congr 1
  apply List.filter_congr
  intro x hx
  rw [all_seen es seen h0 x hx]
  rfl
theorem owns_blocks {w w' : World} {base e size n : Nat} {v : Value} {xs : List Value} (h : w.ownsRow base e size v n xs) (hk : ∀ k, base ≤ k → w'.heap[k]? = w.heap[k]?) : w'.ownsRow base e size v n xs := by
  refine ⟨h.1, ?_⟩
  rcases h.2 with h | ⟨g, cap, cur, h1, h2, h3, h4⟩
  · exact .inl h
  · exact .inr ⟨g, cap, cur, h1, h2, by rw [hk g h2]; exact h3, h4⟩
theorem rangeLeft_of {w : World} {b r since c0 clock : Nat} {seen : Array Nat} {m : Option Nat} {es : Array MapEntry} (hb : w.heap[b]? = some (.map es clock)) (hr : w.heap[r]? = some (.mapIter m since seen c0)) : w.rangeLeft b r = (leftOf es seen).size := by
  simp [World.rangeLeft, hb, hr]
theorem rowOf_snoc (o : List HId) (a b : Int) (u : Unit) : rowOf (o ++ [(a, b, u)]) = rowOf o ++ [.int .i64 a, .int .i64 b] := by
  simp [rowOf, idC]
set_option maxHeartbeats 4000000 in
set_option maxRecDepth 1000000 in
theorem all19 (p po bm : Nat) (es : Array MapEntry) (clock : Nat) (w : World) (hp : w.cell? ⟨p, po, none⟩ = some (.map (some bm))) (hb : w.heap[bm]? = some (.map es clock)) (hB : Born es clock)
    (hk : ∀ e ∈ es.toList, ∃ (x : HId) (v : HWord), e.key = .agg (idC x).toArray ∧ e.val = .agg (wdC v).toArray) (hsz : es.size ≤ 2 ^ 40) (hpb : p < w.heap.size) :
    Calls Tryd.prog 19 #[.pointer (some ⟨p, po, none⟩)] w fun e w' => ∃ v, e = .returned v ∧ Below w.heap.size w w' ∧
      w'.ownsRow (w.heap.size + 1) 24 2 v (((es.toList.filter fun e => onV e.val).map fun e => idV e.key).mergeSort leI).length (rowOf (((es.toList.filter fun e => onV e.val).map fun e => idV e.key).mergeSort leI)) := by
  obtain ⟨hB1, hB2⟩ := hB
  have hbl : bm < w.heap.size := (Array.getElem?_eq_some_iff.1 hb).1
  have hrg := run_range_map (P := Tryd.prog) w 73 24 78 bm es clock Tryd.underlying73 hb
  have hi : Tryd.prog.info? 24 = some Tryd.t24 := by kernel_rfl
  have hz0 : Tryd.t24.zero = some (.agg #[.int .i64 0, .int .i64 0]) := by kernel_rfl
  have hz1 : Tryd.t24.size = 2 := by kernel_rfl
  have hz2 : Tryd.t24.bytes = 16 := by kernel_rfl
  go_enter Tryd.func19, Tryd.ntmps19
  go_wp2
  go_loopw [3] (fun s wr => ∃ (seen : Array Nat) (o : List HId), wr.heap[w.heap.size]? = some (.mapIter (some bm) clock seen clock) ∧ wr.ownsRow (w.heap.size + 1) 24 2 s o.length (rowOf o) ∧ Below w.heap.size w wr ∧ o.Perm (pick es seen)) (fun _ wr => wr.rangeLeft bm w.heap.size)
  case atStart => exact ⟨#[], [], heap_alloc_new _ _, World.ownsRow_nil _ _ _ _, (Below.refl _ _).alloc (Nat.le_refl _) _, by rw [pick_nil]⟩
  case round =>
    obtain ⟨seen, o, hit, hown, hbw, hpm⟩ := hrel
    have hb1 : wr.heap[bm]? = some (.map es clock) := (hbw.block bm hbl).trans hb
    rcases run_next_at (P := Tryd.prog) wr 0 w.heap.size bm clock clock seen es clock hit hb1 hB2 (Nat.le_refl _) with ⟨h0, hrun⟩ | ⟨e, he, w1, hal, hrun⟩
    · have hnx : ∀ ty, (Instr.next (.pointer (some ⟨w.heap.size, 0, none⟩)) false ty).run Tryd.prog wr = _ := fun _ => hrun
      clear hrun
      rw [pick_all h0] at hpm
      have hol : o.length < 4611686018427387904 := by
        rw [hpm.length_eq, List.length_map]
        have := List.length_filter_le (fun e => onV e.val) es.toList
        simp only [Array.length_toList] at this
        omega
      have HS : RowKit.Hid (o.mergeSort leI = ((es.toList.filter fun e => onV e.val).map fun e => idV e.key).mergeSort leI) := sort_perm hpm
      clear hpm hk hb1 hit hi hz0 hz1 hz2 hB1 hB2
      rcases hown.2 with ⟨rfl, ho⟩ | ⟨g, cap, cur, rfl, _⟩
      · have : o = [] := List.eq_nil_of_length_eq_zero ho
        subst this
        go_wp2_with (go_at_call 44; refine (sort44_none _ _ _).mono ?_; rintro e w' ⟨rfl, rfl⟩)
        go_ret
        exact ⟨_, rfl, hbw, by rw [← HS.out, List.mergeSort_nil]; exact hown⟩
      · have h44 := sort44 (w.heap.size + 1) g cap o wr hown hol w.heap.size (by omega)
        go_wp2_with (go_at_call 44; refine h44.mono ?_; rintro e w' ⟨rfl, ho', hb'⟩)
        go_ret
        exact ⟨_, rfl, hbw.trans hb', by rw [← HS.out]; exact ho'⟩
    · obtain ⟨hem, hes⟩ := mem_left he
      obtain ⟨x, v, hkey, hval⟩ := hk e hem
      have hpp := pick_push hB1 hem hes
      rw [hkey, hval, onV_wd, idV_id] at hpp
      have HP : RowKit.Hid ((pick es (seen.push e.born)).Perm (if v.1 = true then x :: pick es seen else pick es seen)) := hpp
      have HM : RowKit.Hid (o.Perm (pick es seen)) := hpm
      have hpmL : o.length = (es.toList.filter fun e => seen.contains e.born && onV e.val).length := by rw [hpm.length_eq]; unfold pick; rw [List.length_map]
      clear hpp hpm hk
      have hr1 : w1.heap[w.heap.size]? = some (.mapIter (some bm) clock seen clock) := by rcases hal with rfl | rfl <;> exact hit
      obtain ⟨W1, hW1⟩ : ∃ W1, W1 = ChangeMaps.setBlock w1 w.heap.size (.mapIter (some bm) clock (seen.push e.born) clock) := ⟨_, rfl⟩
      have hset : W1.heap[w.heap.size]? = some (.mapIter (some bm) clock (seen.push e.born) clock) ∧ ∀ k, k ≠ w.heap.size → W1.heap[k]? = w1.heap[k]? := by rw [hW1]; exact MapKept.heap_set (o' := .mapIter (some bm) clock (seen.push e.born) clock) hr1
      rw [← hW1] at hrun
      have hit2 : W1.heap[w.heap.size]? = some (.mapIter (some bm) clock (seen.push e.born) clock) := hset.1
      have hoth : ∀ k, k ≠ w.heap.size → W1.heap[k]? = wr.heap[k]? := fun k hk => by
        rw [hset.2 k hk]
        rcases hal with rfl | rfl <;> rfl
      have hsz1 : W1.heap.size = wr.heap.size := by
        rw [hW1]; unfold ChangeMaps.setBlock
        rcases hal with rfl | rfl <;> simp
      have hb2 : W1.heap[bm]? = some (.map es clock) := by rw [hoth bm (by omega)]; exact hb1
      have hbw2 : RowKit.Below w.heap.size w W1 := hbw.trans ⟨by rw [hW1]; rcases hal with rfl | rfl <;> rfl, by rw [hW1]; rcases hal with rfl | rfl <;> rfl, by rw [hW1]; rcases hal with rfl | rfl <;> rfl, by omega, fun k hk => hoth k (by omega)⟩
      have hown2 := owns_blocks (w' := W1) hown (fun k hk => hoth k (by omega))
      have HL : RowKit.Hid (wr.rangeLeft bm w.heap.size = (leftOf es seen).size) := rangeLeft_of hb1 hit
      have HS : RowKit.Hid ((leftOf es (seen.push e.born)).size < (leftOf es seen).size) := left_shrinks es seen e he
      have HO : RowKit.Hid (o.length ≤ es.size) := by
        show o.length ≤ es.size
        rw [hpmL]
        exact Nat.le_trans (List.length_filter_le _ _) (by simp)
      have hen := run_entry_at (P := Tryd.prog) W1 w.heap.size bm clock seen es clock e hit2 hb2 hem hB1
      rw [hkey, hval] at hen hrun
      have hnx : ∀ ty, (Instr.next (.pointer (some ⟨w.heap.size, 0, none⟩)) false ty).run Tryd.prog wr = _ := fun _ => hrun
      have hA0 : w.heap.size < W1.heap.size := lt_of_block hit2
      clear hset hW1 hrun hoth hit hown hb1 hal hr1 hbw hkey hval hem hes he hB2 hpmL hsz1
      obtain ⟨on, ⟨st, sr, u1⟩, ⟨fr, fn, u2⟩, u3⟩ := v
      obtain ⟨xr, xn, u4⟩ := x
      simp only [idC, wdC] at hnx hen
      cases on with
      | false =>
        go_wp2_with (fail)
        refine ⟨⟨seen.push e.born, o, ?_, (hown2.alloc _).alloc _, (hbw2.alloc (by omega) _).alloc (by simp; omega) _, HM.out.trans HP.out.symm⟩, ?_⟩
        · rw [heap_alloc_old _ _ (by simp; omega), heap_alloc_old _ _ hA0]; exact hit2
        · rw [HL.out, rangeLeft_of (es := es) (clock := clock) (since := clock) (c0 := clock) (seen := seen.push e.born) (m := some bm)]
          · exact HS.out
          · rw [heap_alloc_old _ _ (by simp; omega), heap_alloc_old _ _ (by omega)]; exact hb2
          · rw [heap_alloc_old _ _ (by simp; omega), heap_alloc_old _ _ hA0]; exact hit2
      | true =>
        obtain ⟨W2, hW2⟩ : ∃ W2, W2 = (W1.alloc (.cells #[.int .i64 xr, .int .i64 xn] 24)).alloc (.cells #[.bool true, .int .i64 st, .int .i64 sr, .int .i64 fr, .int .i64 fn] 78) := ⟨_, rfl⟩
        have hit3 : W2.heap[w.heap.size]? = some (.mapIter (some bm) clock (seen.push e.born) clock) := by
          rw [hW2, heap_alloc_old _ _ (by simp; omega), heap_alloc_old _ _ hA0]; exact hit2
        have hb3 : W2.heap[bm]? = some (.map es clock) := by
          rw [hW2, heap_alloc_old _ _ (by simp; omega), heap_alloc_old _ _ (by omega)]; exact hb2
        have hbw3 : RowKit.Below w.heap.size w W2 := by rw [hW2]; exact (hbw2.alloc (by omega) _).alloc (by simp; omega) _
        have hown3 := (hown2.alloc (.cells #[.int .i64 xr, .int .i64 xn] 24)).alloc (.cells #[.bool true, .int .i64 st, .int .i64 sr, .int .i64 fr, .int .i64 fn] 78)
        rw [← hW2] at hown3
        have hA1 : w.heap.size + 1 < W2.heap.size := by rw [hW2]; simp; omega
        have hlen := HO.out
        have HN : RowKit.Hid (∀ j u, [Value.int .i64 xr, Value.int .i64 xn][j]? = some u → (((W1.alloc (.cells #[.int .i64 xr, .int .i64 xn] 24)).alloc (.cells #[.bool true, .int .i64 st, .int .i64 sr, .int .i64 fr, .int .i64 fn] 78)).alloc (.cells #[.int .i64 xr, .int .i64 xn] 24)).cell? ((⟨W1.heap.size + 1 + 1, 0, none⟩ : Addr).add j) = some u) := by
          have := cell_two_new ((W1.alloc (.cells #[.int .i64 xr, .int .i64 xn] 24)).alloc (.cells #[.bool true, .int .i64 st, .int .i64 sr, .int .i64 fr, .int .i64 fn] 78)) (.int .i64 xr) (.int .i64 xn) 24
          simp only [World.size_alloc] at this
          exact this
        go_wp2_with (first
          | (at_builtin
             refine wpList_append_own _ rfl _ _ 41 rfl (w.heap.size + 1) 24 Tryd.t24 (.agg #[.int .i64 0, .int .i64 0]) 2 16 Tryd.underlying41 hi hz0 hz1 hz2 rfl (by decide) _ _ _ rfl (((hown2.alloc _).alloc _).alloc _) ⟨W1.heap.size + 1 + 1, 0, none⟩ 1 1 [.int .i64 xr, .int .i64 xn] rfl rfl HN.out (fun x hx => by simp at hx; rcases hx with rfl | rfl <;> rfl) (by unfold maxLen; omega) (by omega) (by simp; omega) ?_
             intro v' w3 hown' hgrow3 hnil3
             rw [← hW2] at hgrow3
             have hit4 : w3.heap[w.heap.size]? = some (.mapIter (some bm) clock (seen.push e.born) clock) := by
               rw [hgrow3.block w.heap.size (by simp; omega) (fun h => by have := (hown3.lt _ h.symm).1; omega), heap_alloc_old _ _ (by omega)]; exact hit3
             have hb4 : w3.heap[bm]? = some (.map es clock) := by
               rw [hgrow3.block bm (by simp; omega) (fun h => by have := (hown3.lt _ h.symm).1; omega), heap_alloc_old _ _ (by omega)]; exact hb3
             have hbw4 : RowKit.Below w.heap.size w w3 := RowKit.Below.grown (hbw3.alloc (by omega) _) hgrow3 (by simp; omega) (fun j hj => by have := (hown3.lt _ hj).1; omega)
             have X : Aside (w3.ownsRow (w.heap.size + 1) 24 2 v' (o.length + 1) (rowOf o ++ [.int .i64 xr, .int .i64 xn]) ∧ w3.heap[w.heap.size]? = some (.mapIter (some bm) clock (seen.push e.born) clock) ∧ RowKit.Below w.heap.size w w3 ∧ w3.heap[bm]? = some (.map es clock)) := ⟨hown', hit4, hbw4, hb4⟩
             clear hown' hgrow3 hnil3 hit4 hbw4 hb4))
        refine ⟨⟨seen.push e.born, o ++ [(xr, xn, u4)], X.out.2.1, ?_, X.out.2.2.1, ?_⟩, ?_⟩
        · rw [List.length_append, rowOf_snoc]; exact X.out.1
        · exact ((List.perm_append_singleton _ _).trans (HM.out.cons _)).trans HP.out.symm
        · rw [HL.out, rangeLeft_of X.out.2.2.2 X.out.2.1]
          exact HS.out
end Go.Proofs.YthlpjdjipchdkaaDoor.E

namespace Go.Proofs.YthlpjdjipchdkaaDoor.E
open Go Go.Proofs Go.Shelf Go.RowKit Go.Lib Go.Sort
set_option linter.unusedSimpArgs false
set_option linter.unusedVariables false
theorem rep_pair {h : Hp} {S : Set'} {l : Bool} {a b : Ty} {x : den a × den b} {cs : List Value} {X : List Nat} (hr : Rep h S l (.pair a b) x cs X) :
    ∃ c1 c2 X1 X2, cs = c1 ++ c2 ∧ Rep h S l a x.1 c1 X1 ∧ Rep h S l b x.2 c2 X2 := by
  obtain ⟨c1, c2, X1, X2, h1, _, h2, h3⟩ := hr
  exact ⟨c1, c2, X1, X2, h1, h2, h3⟩
theorem rep_int {h : Hp} {S : Set'} {l : Bool} {k : IntKind} {n : Int} {cs : List Value} {X : List Nat} (hr : Rep h S l (.int k) n cs X) : cs = [.int k n] := hr.1
theorem rep_bool {h : Hp} {S : Set'} {l : Bool} {n : Bool} {cs : List Value} {X : List Nat} (hr : Rep h S l .bool n cs X) : cs = [.bool n] := hr.1
theorem rep_unit {h : Hp} {S : Set'} {l : Bool} {n : Unit} {cs : List Value} {X : List Nat} (hr : Rep h S l .unit n cs X) : cs = [] := hr.1
theorem rep_id {h : Hp} {S : Set'} {l : Bool} {x : HId} {cs : List Value} {X : List Nat} (hr : Rep h S l tId x cs X) : cs = idC x := by
  obtain ⟨c1, c2, _, _, rfl, r1, r2⟩ := rep_pair hr
  obtain ⟨c3, c4, _, _, rfl, r3, r4⟩ := rep_pair r2
  obtain rfl := rep_int r1; obtain rfl := rep_int r3; obtain rfl := rep_unit r4
  rfl
theorem rep_word {h : Hp} {S : Set'} {l : Bool} {x : HWord} {cs : List Value} {X : List Nat} (hr : Rep h S l tWord x cs X) : cs = wdC x := by
  obtain ⟨c1, c2, _, _, rfl, r1, r2⟩ := rep_pair hr
  obtain ⟨c3, c4, _, _, rfl, r3, r4⟩ := rep_pair r2
  obtain ⟨c5, c6, _, _, rfl, r5, r6⟩ := rep_pair r4
  obtain rfl := rep_bool r1; obtain rfl := rep_id r3; obtain rfl := rep_id r5; obtain rfl := rep_unit r6
  rfl
theorem id_rep {h : Hp} {S : Set'} {l : Bool} (x : HId) : Rep h S l tId x (idC x) [] :=
  ⟨[.int .i64 x.1], [.int .i64 x.2.1], [], [], rfl, rfl, ⟨rfl, rfl⟩, ⟨[.int .i64 x.2.1], [], [], [], rfl, rfl, ⟨rfl, rfl⟩, ⟨rfl, rfl⟩⟩⟩
theorem rl_row {h : Hp} {S : Set'} {l : Bool} : ∀ xs : List HId, RL (Rep h S l tId) xs (rowOf xs) []
  | [] => ⟨rfl, rfl⟩
  | x :: xs => ⟨idC x, rowOf xs, [], [], by simp [rowOf], rfl, id_rep x, rl_row xs⟩
theorem rm_words {h : Hp} {S : Set'} {l : Bool} : ∀ {es : List (HId × HWord)} {L : List MapEntry} {X : List Nat}, RM (Rep h S l tId) (Rep h S l tWord) (wrapV tId) (wrapV tWord) es L X →
    L.length = es.length ∧ (∀ e ∈ L, ∃ (x : HId) (v : HWord), e.key = .agg (idC x).toArray ∧ e.val = .agg (wdC v).toArray) ∧ ((L.filter fun e => onV e.val).map fun e => idV e.key) = (es.filter (·.2.1)).map (·.1)
  | [], L, X, h => by
    obtain ⟨rfl, _⟩ := h
    exact ⟨rfl, fun e he => by simp at he, rfl⟩
  | x :: es, L, X, ⟨e, r, ck, cv, X1, X2, h1, h2, h3, h4, h5, h6, h7⟩ => by
    obtain ⟨g1, g2, g3⟩ := rm_words h7
    obtain rfl := rep_id h5
    obtain rfl := rep_word h6
    subst h1
    have hk : e.key = .agg (idC x.1).toArray := h3
    have hv : e.val = .agg (wdC x.2).toArray := h4
    refine ⟨by simp [g1], ?_, ?_⟩
    · intro e' he'
      rcases List.mem_cons.1 he' with rfl | he'
      · exact ⟨_, _, hk, hv⟩
      · exact g2 e' he'
    · rw [List.filter_cons, List.filter_cons, hv, onV_wd]
      cases x.2.1 with
      | true => simp only [if_true, List.map_cons, g3, hk, idV_id]
      | false => simpa using g3
theorem hAll_ok {T : Tab} {G : Glob} : ∀ a q o, hAll.g a = some (q, o) → Hold Tryd.prog T G 19 hAll.s.ps hAll.s.rs a q o := by
  rintro ⟨⟨xs, u1⟩, u⟩ q o he
  obtain ⟨h1, h2⟩ | ⟨_, h2⟩ := br_some he
  case inr => cases h2
  simp only [decide_eq_true_eq] at h1
  obtain ⟨rfl, rfl⟩ := Prod.mk.inj (Option.some.inj h2)
  intro C hP hT hG htk w vs Xs hh hn hz ha hX hnd hlt
  have hl := ArgsR.len ha
  match vs, Xs, hl, ha with
  | [v1], [X1], _, ⟨⟨cs1, r1, e1⟩, _⟩ =>
    have r1 : Rep C.h (Sx C.L C.I true) true (.ref false (.pair (.map true tId tWord) .unit)) (xs, ()) cs1 X1 := r1
    rw [← hh] at r1
    obtain rfl := Rep.lentX r1
    obtain ⟨b, o, arr, E, fr, X', rfl, hb, ho, hr, _⟩ := r1
    have e1 : v1 = .pointer (some ⟨b, o, none⟩) := e1
    subst e1
    obtain ⟨c1, c2, _, _, hcs, r2, r3⟩ := rep_pair hr
    obtain rfl := rep_unit r3
    rw [List.append_nil] at hcs
    have hbl : b < w.heap.size := by
      unfold hpOf at hb; exact (Array.getElem?_eq_some_iff.1 hb).1
    obtain ⟨bm, ents, clock, X2, hc1, hbm, hB, hRM, _⟩ := r2
    obtain ⟨g1, g2, g3⟩ := rm_words hRM
    have hcell : w.cell? ⟨b, o, none⟩ = some (.map (some bm)) := by
      have := cell_at (w := w) hb (o := o) 0
      rw [Nat.add_zero] at this
      rw [this]
      have h2 : ((arr.toList.drop o).take 1)[0]? = some (.map (some bm)) := by rw [show (1 : Nat) = (Ty.pair (.map true tId tWord) .unit).size from rfl, hcs, hc1]; rfl
      rw [List.getElem?_take_of_lt (by omega), List.getElem?_drop] at h2
      simpa using h2
    refine (all19 b o bm ents clock w hcell hbm hB g2 (by rw [← Array.length_toList, g1]; exact h1) hbl).mono ?_
    rintro e w' ⟨v, rfl, hBw, hown⟩
    rw [g3] at hown
    have hall : allOf xs = ((xs.filter (·.2.1)).map (·.1)).mergeSort leI := rfl
    rw [← hall] at hown
    have hfrm : ∀ b', b' < C.n → ¬ C.X b' → hpOf w' b' = C.h b' := fun b' hb' _ => by rw [← hh]; exact hBw.block b' (by omega)
    have hrst : restOf w' = C.z := by rw [← hz]; unfold restOf; rw [hBw.os, hBw.output]
    have hsz := hBw.size
    rcases hown.2 with ⟨rfl, hn0⟩ | ⟨g, cap, cur, rfl, hbg, hg, hnc, hcm, hcs2, htake⟩
    · have hnil : allOf xs = [] := List.eq_nil_of_length_eq_zero hn0
      refine ⟨_, C.I, [.slice none 0 0], [[]], [], rfl, rfl, ⟨⟨[.slice none 0 0], ?_, rfl⟩, trivial⟩, rfl, by simp, by simp, fun b' hb' => ⟨by have := (C.Iok b' hb').1; omega, .inl hb'⟩, fun b' hb' => hb', hfrm, by omega, hrst⟩
      show Rep _ _ false (.sl true tId) (allOf xs) _ _
      rw [hnil]
      exact ⟨none, 0, rfl, Nat.le_refl _, .inl ⟨rfl, rfl, rfl, rfl⟩⟩
    · have hglt := (Array.getElem?_eq_some_iff.1 hg).1
      refine ⟨_, C.I, [.slice (some ⟨g, 0, none⟩) (allOf xs).length cap], [[g]], [], rfl, rfl, ⟨⟨[.slice (some ⟨g, 0, none⟩) (allOf xs).length cap], ?_, rfl⟩, trivial⟩, rfl, by simp, ?_, fun b' hb' => ⟨by have := (C.Iok b' hb').1; omega, .inl hb'⟩, fun b' hb' => hb', hfrm, by omega, hrst⟩
      · refine ⟨some ⟨g, 0, none⟩, cap, rfl, hnc, .inr ⟨g, 0, cur, 24, (0, 0), [], rfl, hg, ?_, ?_, ?_⟩⟩
        · show 0 + cap * 2 ≤ cur.size
          omega
        · rw [List.drop_zero]
          have : (allOf xs).length * tId.size = (allOf xs).length * 2 := rfl
          rw [this, htake]
          exact rl_row _
        · exact ⟨rfl, .inl rfl⟩
      · intro b' hb'
        obtain rfl : b' = g := by simpa using hb'
        exact ⟨fun h => by have := (C.Iok _ h).1; omega, fun h => by have := (C.Lok _ h).1; omega, hglt, .inr (by omega)⟩
end Go.Proofs.YthlpjdjipchdkaaDoor.E

namespace Go.Proofs.YthlpjdjipchdkaaDoor.E
open Go Go.Proofs
set_option linter.unusedVariables false
abbrev u8 : Ty := .int .u8
abbrev i64 : Ty := .int .i64
abbrev yid : Ty := .pair i64 (.pair i64 .unit)
abbrev yword : Ty := .pair .bool (.pair yid (.pair yid .unit))
abbrev ywords : Ty := .map true yid yword
abbrev yregs : Ty := .pair ywords .unit
abbrev ywd : Ty := .pair yid (.pair yid (.pair .bool (.pair yid .unit)))
def prim0 : FuncId → Option Nat → List SV → St → OpR := fun _ _ _ _ => none
def glob0 : Glob := fun g => match g with | 0 => some ⟨yid, (0, (0, ()))⟩ | 1 => some ⟨yid, (1, (0, ()))⟩ | _ => none
def tyT : List (Nat × Ty) := [(26, .ref true yregs), (75, yregs), (74, yregs), (73, ywords)]
def tyF : List (Nat × List (Nat × Ty)) := []
def sigT : List (Nat × Sig) := [(3, ⟨[(false, .sl false ywd), (false, yid)], [.bool]⟩),
   (4, ⟨[(false, .sl false ywd), (false, .sl false i64)], [.bool]⟩),
   (5, ⟨[(false, .sl false ywd), (false, yid), (false, .bool)], [.bool]⟩),
   (6, ⟨[(false, .sl false ywd), (false, yid)], [.bool]⟩),
   (11, ⟨[], [.bool]⟩),
   (12, ⟨[], [.ref true yregs]⟩),
   (13, ⟨[(false, .ref true yregs), (false, yid), (false, .bool), (false, yid), (false, yid)], [.bool, i64]⟩),
   (14, ⟨[(false, ywd)], [.bool]⟩),
   (15, ⟨[(true, .sl false ywd), (false, yid)], [i64]⟩),
   (16, ⟨[(true, .ref false yregs), (false, yid)], [.bool]⟩),
   (17, ⟨[(true, .ref false yregs), (false, yid)], [yid, yid, .bool]⟩),
   (18, ⟨[(true, .sl false yid), (true, .sl false yid)], [.bool]⟩),
   (19, ⟨[(true, .ref false yregs)], [.sl true yid]⟩),
   (20, ⟨[(true, .sl false ywd)], [.sl true yid]⟩),
   (36, ⟨[(false, yid)], [.bool]⟩),
   (37, ⟨[(false, yid)], [.bool]⟩),
   (38, ⟨[(false, yid)], [.bool]⟩),
   (39, ⟨[(false, yword), (false, yword)], [.bool]⟩),
   (40, ⟨[(false, yid)], [.bool]⟩),
   (41, ⟨[(false, yid)], [.bool]⟩),
   (42, ⟨[(false, yid)], [.bool]⟩),
   (43, ⟨[(false, ywd), (false, ywd)], [.bool]⟩),
   (45, ⟨[(false, yid), (false, yid)], [i64]⟩),
   (46, ⟨[(false, yid), (false, yid)], [i64]⟩),
   (68, ⟨[(true, .sl false i64)], [i64]⟩),
   (69, ⟨[(false, yid), (false, yid)], [i64]⟩),
   (70, ⟨[(false, yid), (false, yid)], [i64]⟩),
   (73, ⟨[(false, i64), (false, i64)], [i64]⟩),
   (81, ⟨[(false, i64), (false, i64)], [i64]⟩)]
def inlT : List (Nat × Sig) := [(92, ⟨[], [.bool]⟩)]
def cut16000000_15_0 : Cut := ⟨[(.v 0 true (.sl false ywd)), (.q 3 true yid)], [(.t 5 false (.int .i64)), (.t 6 false (.int .i64))]⟩
def cut19000000_18_0 : Cut := ⟨[(.v 0 true (.sl false yid)), (.v 1 true (.sl false yid))], [(.t 4 false .bool), (.t 5 false (.int .i64))]⟩
def cut21000000_20_0 : Cut := ⟨[(.v 0 true (.sl false ywd))], [(.o 3 21020003 false yid), (.t 4 false (.int .i64))]⟩
def cut21000000_20_2 : Cut := ⟨[(.v 0 true (.sl false ywd)), (.v 3 true (.sl false yid)), (.v 4 false (.int .i64))], [(.t 5 false (.int .i64))]⟩
def cut4000000_3_0 : Cut := ⟨[(.v 0 false (.sl false ywd)), (.c 5 (.p 4000020 []))], [(.t 4 false .bool), (.o 6 4020006 false ywd), (.t 7 false (.int .i64)), (.r 4000020 false yregs yregs)]⟩
def cut5000000_4_0 : Cut := ⟨[(.v 0 false (.sl false ywd))], [(.t 4 false .bool), (.t 5 false (.int .i64))]⟩
def cut5000000_4_2 : Cut := ⟨[(.v 0 false (.sl false ywd)), (.v 5 false (.int .i64))], [(.t 4 false .bool), (.t 6 false (.int .i64))]⟩
def cut5000000_4_4 : Cut := ⟨[(.v 1 false (.sl false (.int .i64))), (.c 7 (.sf 5000068))], [(.t 8 false (.int .i64)), (.a 5000068 false ywd)]⟩
def cut5000000_4_6 : Cut := ⟨[(.v 0 false (.sl false ywd)), (.v 7 true (.sl false ywd)), (.c 11 (.p 5000106 [])), (.c 12 (.p 5000107 []))], [(.t 13 false (.int .i64)), (.r 5000106 false yregs yregs), (.r 5000107 false yregs yregs)]⟩
def cut5000000_4_8 : Cut := ⟨[(.v 0 false (.sl false ywd)), (.c 11 (.p 5000106 [])), (.c 12 (.p 5000107 []))], [(.t 4 false .bool), (.t 14 false (.int .i64)), (.r 5000106 false yregs yregs), (.r 5000107 false yregs yregs)]⟩
def cut6000000_5_0 : Cut := ⟨[(.v 0 false (.sl false ywd)), (.c 7 (.p 6000018 []))], [(.t 6 false .bool), (.t 8 false (.int .i64)), (.r 6000018 false yregs yregs)]⟩
def cut69000000_68_0 : Cut := ⟨[(.v 3 false (.int .i64)), (.v 6 true (.sl false (.int .i64))), (.v 7 false (.int .i64))], [(.t 2 false (.int .i64)), (.t 8 false (.int .i64))]⟩
def cut7000000_6_0 : Cut := ⟨[(.v 0 false (.sl false ywd)), (.q 3 true yid), (.c 5 (.p 7000019 [])), (.c 6 (.p 7000020 []))], [(.t 7 false (.int .i64)), (.r 7000019 false yregs yregs), (.r 7000020 false yregs yregs)]⟩
def annT : List (Nat × List (Nat × List (Nat × Cut))) := [(4000000, [(3, [(0, cut4000000_3_0)])]),
   (5000000, [(4, [(0, cut5000000_4_0), (2, cut5000000_4_2), (4, cut5000000_4_4), (6, cut5000000_4_6), (8, cut5000000_4_8)])]),
   (6000000, [(5, [(0, cut6000000_5_0)])]),
   (7000000, [(6, [(0, cut7000000_6_0)])]),
   (16000000, [(15, [(0, cut16000000_15_0)])]),
   (19000000, [(18, [(0, cut19000000_18_0)])]),
   (21000000, [(20, [(0, cut21000000_20_0), (2, cut21000000_20_2)])]),
   (69000000, [(68, [(0, cut69000000_68_0)])])]
def handT : List (Nat × HandE) := [(19, hAll)]
noncomputable def E0 : Env := mkEnv Tryd.prog tyT tyF sigT inlT annT prim0 glob0 [] handT
noncomputable def codeOf (f id : Nat) : Code := match Tryd.prog.funcs[f]? with
  | some F => (match F.body with | some c => (findX id c).getD .skip | none => .skip)
  | none => .skip
noncomputable def rvOf (f : Nat) : List ResultVar := match Tryd.prog.funcs[f]? with
  | some F => F.results.toList
  | none => []
abbrev TWord := Bool × (TId × (TId × Unit))
abbrev TWd := TId × (TId × (Bool × (TId × Unit)))
abbrev TRegs := List (TId × TWord) × Unit
def zWd : TWd := (((0 : Int), ((0 : Int), ())), (((0 : Int), ((0 : Int), ())), (false, (((0 : Int), ((0 : Int), ())), ()))))
def zWo : TWord := (false, (((0 : Int), ((0 : Int), ())), (((0 : Int), ((0 : Int), ())), ())))
end Go.Proofs.YthlpjdjipchdkaaDoor.E

namespace Go.Proofs.YthlpjdjipchdkaaDoor.E
open Go
set_option linter.unusedVariables false
set_option maxRecDepth 100000
noncomputable def F_regsRegsAll (k : Nat) (a0 : TRegs) : Option (((List (TId)) × (Unit)) × (Unit)) := fnE E0 k 19 (a0, ())
theorem F_regsRegsAll_step (k : Nat) (a0 : List (TId × TWord)) (u : Unit) : F_regsRegsAll (k + 1) (a0, u) =
  br (decide (List.length a0 ≤ 2 ^ 40)) (some ((allOf a0, ()), ())) none := by kernel_rfl
end Go.Proofs.YthlpjdjipchdkaaDoor.E

namespace Go.Proofs.YthlpjdjipchdkaaDoor.E
open Go
set_option linter.unusedVariables false
set_option maxRecDepth 100000
noncomputable def F_regsNew (k : Nat)  : Option (((TRegs) × (Unit)) × (Unit)) := fnE E0 k 12 ()
noncomputable def F_stampRightBlock (k : Nat) (a0 : TId) : Option (((Bool) × (Unit)) × (Unit)) := fnE E0 k 36 (a0, ())
noncomputable def F_stampRightStamp (k : Nat) (a0 : TId) : Option (((Bool) × (Unit)) × (Unit)) := fnE E0 k 37 (a0, ())
noncomputable def F_stampRightOp (k : Nat) (a0 : TId) : Option (((Bool) × (Unit)) × (Unit)) := fnE E0 k 38 (a0, ())
noncomputable def F_ref03RightBlock (k : Nat) (a0 : TId) : Option (((Bool) × (Unit)) × (Unit)) := fnE E0 k 40 (a0, ())
noncomputable def F_ref03RightStamp (k : Nat) (a0 : TId) : Option (((Bool) × (Unit)) × (Unit)) := fnE E0 k 41 (a0, ())
noncomputable def F_ref03RightOp (k : Nat) (a0 : TId) : Option (((Bool) × (Unit)) × (Unit)) := fnE E0 k 42 (a0, ())
noncomputable def F_cmpCompareint (k : Nat) (a0 : Int) (a1 : Int) : Option (((Int) × (Unit)) × (Unit)) := fnE E0 k 73 (a0, a1, ())
noncomputable def F_cmpOrint (k : Nat) (a0 : List (Int)) : Option (((Int) × (Unit)) × (Unit)) := fnE E0 k 68 (a0, ())
noncomputable def F_stampOrderStamps (k : Nat) (a0 : TId) (a1 : TId) : Option (((Int) × (Unit)) × (Unit)) := fnE E0 k 69 (a0, a1, ())
noncomputable def F_stampOrderIds (k : Nat) (a0 : TId) (a1 : TId) : Option (((Int) × (Unit)) × (Unit)) := fnE E0 k 45 (a0, a1, ())
noncomputable def F_regswordlater (k : Nat) (a0 : TWord) (a1 : TWord) : Option (((Bool) × (Unit)) × (Unit)) := fnE E0 k 39 (a0, a1, ())
noncomputable def F_ref15Right (k : Nat) (a0 : TWd) : Option (((Bool) × (Unit)) × (Unit)) := fnE E0 k 14 (a0, ())
noncomputable def F_regsRegsOn (k : Nat) (a0 : TRegs) (a1 : TId) : Option (((Bool) × (Unit)) × (Unit)) := fnE E0 k 16 (a0, a1, ())
noncomputable def F_regsRegsLast (k : Nat) (a0 : TRegs) (a1 : TId) : Option (((TId) × ((TId) × ((Bool) × (Unit)))) × (Unit)) := fnE E0 k 17 (a0, a1, ())
noncomputable def F_regsRegsSay (k : Nat) (a0 : TRegs) (a1 : TId) (a2 : Bool) (a3 : TId) (a4 : TId) : Option (((Bool) × ((Int) × (Unit))) × ((TRegs) × (Unit))) := fnE E0 k 13 (a0, a1, a2, a3, a4, ())
noncomputable def F_law15alive (k : Nat)  : Option (((Bool) × (Unit)) × (Unit)) := fnE E0 k 11 ()
theorem F_regsNew_step (k : Nat)  : F_regsNew (k + 1)  =
  (some (((([] : List ((TId) × (TWord))), ()), ()), ())) := by kernel_rfl
theorem F_stampRightBlock_step (k : Nat) (a0 : TId) : F_stampRightBlock (k + 1) a0 =
  (br (cond (denEq (.pair (.int .i64) (.pair (.int .i64) .unit)) a0 ((0 : Int), ((0 : Int), ()))) true (denEq (.pair (.int .i64) (.pair (.int .i64) .unit)) a0 ((1 : Int), ((0 : Int), ()))))
   (some ((true, ()), ()))
   (bd (F_stampRightOp k a0) (fun (r : ((Bool) × (Unit)) × (Unit)) => (some ((r.1.1, ()), ()))))) := by kernel_rfl
theorem F_stampRightStamp_step (k : Nat) (a0 : TId) : F_stampRightStamp (k + 1) a0 =
  (some (((cond (cond (cond (decide (a0.1 ≥ (1 : Int))) (decide (a0.1 ≤ (1099511627776 : Int))) false) (decide (a0.2.1 ≥ (0 : Int))) false) (decide (a0.2.1 < (16 : Int))) false), ()), ())) := by kernel_rfl
theorem F_stampRightOp_step (k : Nat) (a0 : TId) : F_stampRightOp (k + 1) a0 =
  (some (((cond (cond (cond (decide (a0.1 ≥ (0 : Int))) (decide (a0.1 < (16 : Int))) false) (decide (a0.2.1 ≥ (1 : Int))) false) (decide (a0.2.1 ≤ (1048576 : Int))) false), ()), ())) := by kernel_rfl
theorem F_ref03RightBlock_step (k : Nat) (a0 : TId) : F_ref03RightBlock (k + 1) a0 =
  (bd (F_ref03RightOp k a0) (fun (r : ((Bool) × (Unit)) × (Unit)) => (some (((cond r.1.1 true (cond (a0.2.1 == (0 : Int)) (cond (a0.1 == (0 : Int)) true (a0.1 == (1 : Int))) false)), ()), ())))) := by kernel_rfl
theorem F_ref03RightStamp_step (k : Nat) (a0 : TId) : F_ref03RightStamp (k + 1) a0 =
  (some (((cond (cond (cond (decide (a0.1 ≥ (1 : Int))) (decide (a0.1 ≤ (1099511627776 : Int))) false) (decide (a0.2.1 ≥ (0 : Int))) false) (decide (a0.2.1 ≤ (15 : Int))) false), ()), ())) := by kernel_rfl
theorem F_ref03RightOp_step (k : Nat) (a0 : TId) : F_ref03RightOp (k + 1) a0 =
  (some (((cond (cond (cond (decide (a0.1 ≥ (0 : Int))) (decide (a0.1 ≤ (15 : Int))) false) (decide (a0.2.1 ≥ (1 : Int))) false) (decide (a0.2.1 ≤ (1048576 : Int))) false), ()), ())) := by kernel_rfl
theorem F_cmpCompareint_step (k : Nat) (a0 : Int) (a1 : Int) : F_cmpCompareint (k + 1) a0 a1 =
  (br (a0 != a0)
   (br (a1 != a1)
    (some (((0 : Int), ()), ()))
    (some (((-1 : Int), ()), ())))
   (br (a1 != a1)
    (some (((1 : Int), ()), ()))
    (br (decide (a0 < a1))
     (some (((-1 : Int), ()), ()))
     (br (decide (a0 > a1))
      (some (((1 : Int), ()), ()))
      (some (((0 : Int), ()), ())))))) := by kernel_rfl
noncomputable def L_cmpOrint_0 (k : Nat) (s0 : Int) (s1 : List (Int)) (s2 : Int) : Nat → TId → Option (LO ((Int) × (Unit)) (TId) (Unit)) :=
  loopF true 0 18 69000000 68 cut69000000_68_0 (s0, s1, s2, ()) (fun σ K => bodyAt E0 (fnE E0 k) (inl5 E0 (fnE E0 k) k) 68 (rvOf 68) k (codeOf 68 0) _ σ K)
theorem L_cmpOrint_0_step (k m : Nat) (s0 : Int) (s1 : List (Int)) (s2 : Int) (x0 : Int) (x1 : Int) : L_cmpOrint_0 k s0 s1 s2 (m + 1) (x0, x1, ()) =
  (br (decide (x1 < s2))
   (br (inB x1 (List.length s1))
    (br ((List.getD s1 (Int.toNat x1) (0 : Int)) != s0)
     (some (.ret ((List.getD s1 (Int.toNat x1) (0 : Int)), ()) ()))
     (L_cmpOrint_0 k s0 s1 s2 m (x0, ((IntKind.wrap (IntKind.i64) (x1 + (1 : Int))), ()))))
    none)
   (some (.brk (x0, (x1, ()))))) := by kernel_rfl
theorem F_cmpOrint_step (k : Nat) (a0 : List (Int)) : F_cmpOrint (k + 1) a0 =
  (bdL (L_cmpOrint_0 k (0 : Int) a0 (((List.length a0) : Nat) : Int) k ((0 : Int), ((0 : Int), ())))
   (fun (b : TId) => (some (((0 : Int), ()), ())))
   (fun (j : Nat) => (fun (b : TId) => none))
   (fun (q : (Int) × (Unit)) => (fun (b : Unit) => (some (q, ()))))) := by kernel_rfl
theorem F_stampOrderStamps_step (k : Nat) (a0 : TId) (a1 : TId) : F_stampOrderStamps (k + 1) a0 a1 =
  (bd (F_cmpCompareint k a0.1 a1.1) (fun (r : ((Int) × (Unit)) × (Unit)) => (bd (F_cmpCompareint k a0.2.1 a1.2.1) (fun (r1 : ((Int) × (Unit)) × (Unit)) => (bd (F_cmpOrint k (r.1.1 :: (r1.1.1 :: ([] : List (Int))))) (fun (r2 : ((Int) × (Unit)) × (Unit)) => (some ((r2.1.1, ()), ())))))))) :=
 (show F_stampOrderStamps (k + 1) a0 a1 =
  (both
   (bd (F_cmpCompareint k a0.1 a1.1) (fun (r : ((Int) × (Unit)) × (Unit)) => (bd (F_cmpCompareint k a0.2.1 a1.2.1) (fun (r1 : ((Int) × (Unit)) × (Unit)) => (bd (F_cmpOrint k (r.1.1 :: (r1.1.1 :: ([] : List (Int))))) (fun (r2 : ((Int) × (Unit)) × (Unit)) => (some ((r2.1.1, ()), ()))))))))
   (both
    (both
     (bd (F_cmpCompareint k a0.1 a1.1) (fun (r : ((Int) × (Unit)) × (Unit)) => (bd (F_cmpCompareint k a0.2.1 a1.2.1) (fun (r1 : ((Int) × (Unit)) × (Unit)) => (bd (F_cmpOrint k (r.1.1 :: (r1.1.1 :: ([] : List (Int))))) (fun (r2 : ((Int) × (Unit)) × (Unit)) => (some ((r2.1.1, ()), ()))))))))
     (bd (F_cmpCompareint k a0.1 a1.1) (fun (r : ((Int) × (Unit)) × (Unit)) => (bd (F_cmpCompareint k a0.2.1 a1.2.1) (fun (r1 : ((Int) × (Unit)) × (Unit)) => (bd (F_cmpOrint k (r.1.1 :: (r1.1.1 :: ([] : List (Int))))) (fun (r2 : ((Int) × (Unit)) × (Unit)) => (some ((r2.1.1, ()), ())))))))))
    (both
     (bd (F_cmpCompareint k a0.1 a1.1) (fun (r : ((Int) × (Unit)) × (Unit)) => (bd (F_cmpCompareint k a0.2.1 a1.2.1) (fun (r1 : ((Int) × (Unit)) × (Unit)) => (bd (F_cmpOrint k (r.1.1 :: (r1.1.1 :: ([] : List (Int))))) (fun (r2 : ((Int) × (Unit)) × (Unit)) => (some ((r2.1.1, ()), ()))))))))
     (bd (F_cmpCompareint k a0.1 a1.1) (fun (r : ((Int) × (Unit)) × (Unit)) => (bd (F_cmpCompareint k a0.2.1 a1.2.1) (fun (r1 : ((Int) × (Unit)) × (Unit)) => (bd (F_cmpOrint k (r.1.1 :: (r1.1.1 :: ([] : List (Int))))) (fun (r2 : ((Int) × (Unit)) × (Unit)) => (some ((r2.1.1, ()), ()))))))))))) by kernel_rfl).trans (by simp only [both_self])
theorem F_stampOrderIds_step (k : Nat) (a0 : TId) (a1 : TId) : F_stampOrderIds (k + 1) a0 a1 =
  (bd (F_cmpCompareint k a0.1 a1.1) (fun (r : ((Int) × (Unit)) × (Unit)) => (bd (F_cmpCompareint k a0.2.1 a1.2.1) (fun (r1 : ((Int) × (Unit)) × (Unit)) => (bd (F_cmpOrint k (r.1.1 :: (r1.1.1 :: ([] : List (Int))))) (fun (r2 : ((Int) × (Unit)) × (Unit)) => (some ((r2.1.1, ()), ())))))))) :=
 (show F_stampOrderIds (k + 1) a0 a1 =
  (both
   (bd (F_cmpCompareint k a0.1 a1.1) (fun (r : ((Int) × (Unit)) × (Unit)) => (bd (F_cmpCompareint k a0.2.1 a1.2.1) (fun (r1 : ((Int) × (Unit)) × (Unit)) => (bd (F_cmpOrint k (r.1.1 :: (r1.1.1 :: ([] : List (Int))))) (fun (r2 : ((Int) × (Unit)) × (Unit)) => (some ((r2.1.1, ()), ()))))))))
   (both
    (both
     (bd (F_cmpCompareint k a0.1 a1.1) (fun (r : ((Int) × (Unit)) × (Unit)) => (bd (F_cmpCompareint k a0.2.1 a1.2.1) (fun (r1 : ((Int) × (Unit)) × (Unit)) => (bd (F_cmpOrint k (r.1.1 :: (r1.1.1 :: ([] : List (Int))))) (fun (r2 : ((Int) × (Unit)) × (Unit)) => (some ((r2.1.1, ()), ()))))))))
     (bd (F_cmpCompareint k a0.1 a1.1) (fun (r : ((Int) × (Unit)) × (Unit)) => (bd (F_cmpCompareint k a0.2.1 a1.2.1) (fun (r1 : ((Int) × (Unit)) × (Unit)) => (bd (F_cmpOrint k (r.1.1 :: (r1.1.1 :: ([] : List (Int))))) (fun (r2 : ((Int) × (Unit)) × (Unit)) => (some ((r2.1.1, ()), ())))))))))
    (both
     (bd (F_cmpCompareint k a0.1 a1.1) (fun (r : ((Int) × (Unit)) × (Unit)) => (bd (F_cmpCompareint k a0.2.1 a1.2.1) (fun (r1 : ((Int) × (Unit)) × (Unit)) => (bd (F_cmpOrint k (r.1.1 :: (r1.1.1 :: ([] : List (Int))))) (fun (r2 : ((Int) × (Unit)) × (Unit)) => (some ((r2.1.1, ()), ()))))))))
     (bd (F_cmpCompareint k a0.1 a1.1) (fun (r : ((Int) × (Unit)) × (Unit)) => (bd (F_cmpCompareint k a0.2.1 a1.2.1) (fun (r1 : ((Int) × (Unit)) × (Unit)) => (bd (F_cmpOrint k (r.1.1 :: (r1.1.1 :: ([] : List (Int))))) (fun (r2 : ((Int) × (Unit)) × (Unit)) => (some ((r2.1.1, ()), ()))))))))))) by kernel_rfl).trans (by simp only [both_self])
theorem F_regswordlater_step (k : Nat) (a0 : TWord) (a1 : TWord) : F_regswordlater (k + 1) a0 a1 =
  (bd (F_stampOrderStamps k a0.2.1 a1.2.1) (fun (r : ((Int) × (Unit)) × (Unit)) => (bd (F_stampOrderIds k a0.2.2.1 a1.2.2.1) (fun (r1 : ((Int) × (Unit)) × (Unit)) => (bd (F_cmpOrint k (r.1.1 :: (r1.1.1 :: ([] : List (Int))))) (fun (r2 : ((Int) × (Unit)) × (Unit)) => (some (((decide (r2.1.1 > (0 : Int))), ()), ())))))))) :=
 (show F_regswordlater (k + 1) a0 a1 =
  (both
   (bd (F_stampOrderStamps k a0.2.1 a1.2.1) (fun (r : ((Int) × (Unit)) × (Unit)) => (bd (F_stampOrderIds k a0.2.2.1 a1.2.2.1) (fun (r1 : ((Int) × (Unit)) × (Unit)) => (bd (F_cmpOrint k (r.1.1 :: (r1.1.1 :: ([] : List (Int))))) (fun (r2 : ((Int) × (Unit)) × (Unit)) => (some (((decide (r2.1.1 > (0 : Int))), ()), ()))))))))
   (both
    (both
     (bd (F_stampOrderStamps k a0.2.1 a1.2.1) (fun (r : ((Int) × (Unit)) × (Unit)) => (bd (F_stampOrderIds k a0.2.2.1 a1.2.2.1) (fun (r1 : ((Int) × (Unit)) × (Unit)) => (bd (F_cmpOrint k (r.1.1 :: (r1.1.1 :: ([] : List (Int))))) (fun (r2 : ((Int) × (Unit)) × (Unit)) => (some (((decide (r2.1.1 > (0 : Int))), ()), ()))))))))
     (bd (F_stampOrderStamps k a0.2.1 a1.2.1) (fun (r : ((Int) × (Unit)) × (Unit)) => (bd (F_stampOrderIds k a0.2.2.1 a1.2.2.1) (fun (r1 : ((Int) × (Unit)) × (Unit)) => (bd (F_cmpOrint k (r.1.1 :: (r1.1.1 :: ([] : List (Int))))) (fun (r2 : ((Int) × (Unit)) × (Unit)) => (some (((decide (r2.1.1 > (0 : Int))), ()), ())))))))))
    (both
     (bd (F_stampOrderStamps k a0.2.1 a1.2.1) (fun (r : ((Int) × (Unit)) × (Unit)) => (bd (F_stampOrderIds k a0.2.2.1 a1.2.2.1) (fun (r1 : ((Int) × (Unit)) × (Unit)) => (bd (F_cmpOrint k (r.1.1 :: (r1.1.1 :: ([] : List (Int))))) (fun (r2 : ((Int) × (Unit)) × (Unit)) => (some (((decide (r2.1.1 > (0 : Int))), ()), ()))))))))
     (bd (F_stampOrderStamps k a0.2.1 a1.2.1) (fun (r : ((Int) × (Unit)) × (Unit)) => (bd (F_stampOrderIds k a0.2.2.1 a1.2.2.1) (fun (r1 : ((Int) × (Unit)) × (Unit)) => (bd (F_cmpOrint k (r.1.1 :: (r1.1.1 :: ([] : List (Int))))) (fun (r2 : ((Int) × (Unit)) × (Unit)) => (some (((decide (r2.1.1 > (0 : Int))), ()), ()))))))))))) by kernel_rfl).trans (by simp only [both_self])
theorem F_ref15Right_step (k : Nat) (a0 : TWd) : F_ref15Right (k + 1) a0 =
  (bd (F_ref03RightBlock k a0.1) (fun (r : ((Bool) × (Unit)) × (Unit)) => (br r.1.1
    (bd (F_ref03RightStamp k a0.2.2.2.1) (fun (r1 : ((Bool) × (Unit)) × (Unit)) => (br (cond true r1.1.1 false)
      (bd (F_ref03RightOp k a0.2.1) (fun (r2 : ((Bool) × (Unit)) × (Unit)) => (some ((r2.1.1, ()), ()))))
      (some ((false, ()), ())))))
    (some ((false, ()), ()))))) := by kernel_rfl
theorem F_regsRegsOn_step (k : Nat) (a0 : TRegs) (a1 : TId) : F_regsRegsOn (k + 1) a0 a1 =
  (some (((Option.getD (mfind (denEq (.pair (.int .i64) (.pair (.int .i64) .unit))) a0.1 a1) zWo).1, ()), ())) := by kernel_rfl
theorem F_regsRegsLast_step (k : Nat) (a0 : TRegs) (a1 : TId) : F_regsRegsLast (k + 1) a0 a1 =
  (some (((Option.getD (mfind (denEq (.pair (.int .i64) (.pair (.int .i64) .unit))) a0.1 a1) zWo).2.1, ((Option.getD (mfind (denEq (.pair (.int .i64) (.pair (.int .i64) .unit))) a0.1 a1) zWo).2.2.1, ((Option.isSome (mfind (denEq (.pair (.int .i64) (.pair (.int .i64) .unit))) a0.1 a1)), ()))), ())) :=
 (show F_regsRegsLast (k + 1) a0 a1 =
  (both
   (some (((Option.getD (mfind (denEq (.pair (.int .i64) (.pair (.int .i64) .unit))) a0.1 a1) zWo).2.1, ((Option.getD (mfind (denEq (.pair (.int .i64) (.pair (.int .i64) .unit))) a0.1 a1) zWo).2.2.1, ((Option.isSome (mfind (denEq (.pair (.int .i64) (.pair (.int .i64) .unit))) a0.1 a1)), ()))), ()))
   (some (((Option.getD (mfind (denEq (.pair (.int .i64) (.pair (.int .i64) .unit))) a0.1 a1) zWo).2.1, ((Option.getD (mfind (denEq (.pair (.int .i64) (.pair (.int .i64) .unit))) a0.1 a1) zWo).2.2.1, ((Option.isSome (mfind (denEq (.pair (.int .i64) (.pair (.int .i64) .unit))) a0.1 a1)), ()))), ()))) by kernel_rfl).trans (by simp only [both_self])
theorem F_regsRegsSay_step (k : Nat) (a0 : TRegs) (a1 : TId) (a2 : Bool) (a3 : TId) (a4 : TId) : F_regsRegsSay (k + 1) a0 a1 a2 a3 a4 =
  (bd (F_stampRightBlock k a1) (fun (r : ((Bool) × (Unit)) × (Unit)) => (br (!r.1.1)
    (some ((false, ((10 : Int), ())), (a0, ())))
    (bd (F_stampRightStamp k a3) (fun (r1 : ((Bool) × (Unit)) × (Unit)) => (br (cond false true (!r1.1.1))
      (some ((false, ((10 : Int), ())), (a0, ())))
      (bd (F_stampRightOp k a4) (fun (r2 : ((Bool) × (Unit)) × (Unit)) => (br (cond false true (!r2.1.1))
        (some ((false, ((10 : Int), ())), (a0, ())))
        (br (Option.isSome (mfind (denEq (.pair (.int .i64) (.pair (.int .i64) .unit))) a0.1 a1))
         (bd (F_regswordlater k (a2, (a3, (a4, ()))) (Option.getD (mfind (denEq (.pair (.int .i64) (.pair (.int .i64) .unit))) a0.1 a1) zWo)) (fun (r3 : ((Bool) × (Unit)) × (Unit)) => (br (cond true (!r3.1.1) false)
           (some ((false, ((0 : Int), ())), (a0, ())))
           (some ((true, ((0 : Int), ())), (((mput (denEq (.pair (.int .i64) (.pair (.int .i64) .unit))) a0.1 a1 (a2, (a3, (a4, ())))), a0.2), ()))))))
         (some ((true, ((0 : Int), ())), (((mput (denEq (.pair (.int .i64) (.pair (.int .i64) .unit))) a0.1 a1 (a2, (a3, (a4, ())))), a0.2), ()))))))))))))) := by kernel_rfl
theorem F_law15alive_step (k : Nat)  : F_law15alive (k + 1)  =
  (bd (F_regsNew k ) (fun (r : ((TRegs) × (Unit)) × (Unit)) => (bd (F_regsRegsSay k r.1.1 ((0 : Int), ((1 : Int), ())) true ((5 : Int), ((0 : Int), ())) ((0 : Int), ((2 : Int), ()))) (fun (r1 : ((Bool) × ((Int) × (Unit))) × ((TRegs) × (Unit))) => (bd (F_regsRegsSay k r1.2.1 ((0 : Int), ((1 : Int), ())) false ((4 : Int), ((0 : Int), ())) ((0 : Int), ((3 : Int), ()))) (fun (r2 : ((Bool) × ((Int) × (Unit))) × ((TRegs) × (Unit))) => (bd (F_regsRegsSay k r2.2.1 ((0 : Int), ((1 : Int), ())) false ((0 : Int), ((0 : Int), ())) ((0 : Int), ((3 : Int), ()))) (fun (r3 : ((Bool) × ((Int) × (Unit))) × ((TRegs) × (Unit))) => (bd (F_regsRegsLast k r3.2.1 ((0 : Int), ((1 : Int), ()))) (fun (r4 : ((TId) × ((TId) × ((Bool) × (Unit)))) × (Unit)) => (br (cond (cond (cond (cond r1.1.1 (!r2.1.1) false) (r1.1.2.1 == (0 : Int)) false) (r2.1.2.1 == (0 : Int)) false) (r3.1.2.1 == (10 : Int)) false)
        (bd (F_regsRegsOn k r3.2.1 ((0 : Int), ((1 : Int), ()))) (fun (r5 : ((Bool) × (Unit)) × (Unit)) => (br (cond (cond (cond (cond true r5.1.1 false) (r4.1.1.1 == (5 : Int)) false) (r4.1.2.1.2.1 == (2 : Int)) false) r4.1.2.2.1 false)
          (bd (F_regsRegsAll k r3.2.1) (fun (r6 : ((List (TId)) × (Unit)) × (Unit)) => (some (((cond true ((((List.length r6.1.1) : Nat) : Int) == (1 : Int)) false), ()), ()))))
          (some ((false, ()), ())))))
        (some ((false, ()), ()))))))))))))) := by kernel_rfl
end Go.Proofs.YthlpjdjipchdkaaDoor.E

namespace Go.Proofs.YthlpjdjipchdkaaDoor.E
open Go
set_option linter.unusedSimpArgs false
set_option linter.unusedVariables false
theorem br_t {R : Type} {c : Bool} {a b : Option R} (h : c = true) : br c a b = a := by rw [h]; rfl
theorem br_f {R : Type} {c : Bool} {a b : Option R} (h : c = false) : br c a b = b := by rw [h]; rfl
@[simp] theorem br_true {R : Type} {a b : Option R} : br true a b = a := rfl
@[simp] theorem br_false {R : Type} {a b : Option R} : br false a b = b := rfl
@[simp] theorem bd_s {A R : Type} {x : A} {f : A → Option R} : bd (some x) f = f x := rfl
@[simp] theorem bdL_b {Q X B R : Type} {b : X} {f : X → Option R} {g : Nat → X → Option R} {h : Q → B → Option R} : bdL (some (LO.brk b)) f g h = f b := rfl
@[simp] theorem bdL_e {Q X B R : Type} {b : X} {j : Nat} {f : X → Option R} {g : Nat → X → Option R} {h : Q → B → Option R} : bdL (some (LO.ext j b)) f g h = g j b := rfl
@[simp] theorem bdL_r {Q X B R : Type} {q : Q} {b : B} {f : X → Option R} {g : Nat → X → Option R} {h : Q → B → Option R} : bdL (some (LO.ret q b)) f g h = h q b := rfl
theorem inB_t {i : Int} {n : Nat} (h : 0 ≤ i ∧ i < n) : inB i n = true := inB_iff.2 h
@[simp] theorem cond_f (x y : Bool) : cond x y false = (x && y) := by cases x <;> rfl
@[simp] theorem cond_t (x y : Bool) : cond x true y = (x || y) := by cases x <;> rfl
@[simp] theorem boolEq_t (x : Bool) : boolEq x true = x := by cases x <;> rfl
theorem i_lt {i n : Nat} (h : i < n) : decide ((i : Int) < (n : Int)) = true := by simp; omega
theorem i_ge (n : Nat) : decide ((n : Int) < (n : Int)) = false := by simp
theorem i_in {i n : Nat} (h : i < n) : inB (i : Int) n = true := inB_t ⟨by omega, by omega⟩
theorem wr {x : Int} (h : -9223372036854775808 ≤ x ∧ x < 9223372036854775808) : IntKind.wrap IntKind.i64 x = x := IntWalk.i64_in _ ⟨by omega, by omega⟩
theorem i_nx {i : Nat} (h : i < 4611686018427387904) : IntKind.i64.wrap ((i : Int) + 1) = ((i + 1 : Nat) : Int) := by
  rw [IntWalk.i64_in _ ⟨by omega, by omega⟩]; omega
theorem getD_of {α : Type} {l : List α} {i : Nat} (h : i < l.length) (d : α) : List.getD l (Int.toNat (i : Int)) d = l[i] := by simp [List.getD, h]
theorem denEq_iff : ∀ {t : Ty} {a b : den t}, eqTy t = true → (denEq t a b = true ↔ a = b)
  | .int _, a, b, _ => by simp [denEq]
  | .bool, a, b, _ => by
    show boolEq a b = true ↔ a = b
    cases a <;> cases b <;> simp [boolEq]
  | .str, a, b, _ => by
    show (a == b) = true ↔ a = b
    simp
  | .unit, a, b, _ => by simp [denEq]
  | .pair s t, a, b, h => by
    simp only [eqTy, Bool.and_eq_true] at h
    simp only [denEq, Bool.and_eq_true]
    rw [denEq_iff h.1, denEq_iff h.2]
    exact Prod.ext_iff.symm
  | .arr _ _, _, _, h | .sl _ _, _, _, h | .ptr _ _, _, _, h | .ref _ _, _, _, h | .map _ _ _, _, _, h | .hole _, _, _, h | .raw _ _, _, _, h | .nils, _, _, h | .nilp, _, _, h => by simp [eqTy] at h
theorem dec_of {p : Prop} [Decidable p] {b : Bool} (h : b = true ↔ p) : b = decide p := by
  cases b with
  | true => simp [h.1 rfl]
  | false => symm; simp; exact fun hp => by have := h.2 hp; cases this
@[simp] theorem eqI (a b : TId) : denEq (.pair (.int .i64) (.pair (.int .i64) .unit)) a b = decide (a = b) := dec_of (denEq_iff rfl)
@[simp] theorem boolEq_f (x : Bool) : boolEq x false = !x := by cases x <;> rfl
abbrev eqId : TId → TId → Bool := denEq (.pair (.int .i64) (.pair (.int .i64) .unit))
theorem eqId_iff {a b : TId} : eqId a b = true ↔ a = b := by
  show denEq (.pair (.int .i64) (.pair (.int .i64) .unit)) a b = true ↔ a = b
  rw [eqI]; simp
theorem eqId_ne {a b : TId} (h : a ≠ b) : eqId a b = false := by
  cases e : eqId a b with
  | false => rfl
  | true => exact (h (eqId_iff.1 e)).elim
theorem eqId_self (a : TId) : eqId a a = true := eqId_iff.2 rfl
theorem mfind_put {V : Type} (es : List (TId × V)) (y z : TId) (v : V) : mfind eqId (mput eqId es y v) z = if z = y then some v else mfind eqId es z := by
  induction es with
  | nil =>
    by_cases h : z = y
    · subst h; simp [mput, mfind, eqId_self]
    · simp [mput, mfind, eqId_ne h, h]
  | cons x es ih =>
    obtain ⟨k, u⟩ := x
    by_cases hk : y = k
    · subst hk
      by_cases h : z = y
      · subst h; simp [mput, mfind, eqId_self]
      · simp [mput, mfind, eqId_self, eqId_ne h, h]
    · by_cases h : z = k
      · subst h
        have : z ≠ y := fun e => hk e.symm
        simp [mput, mfind, eqId_ne hk, eqId_self, this]
      · simp [mput, mfind, eqId_ne hk, eqId_ne h, ih]
end Go.Proofs.YthlpjdjipchdkaaDoor.E

namespace Go.Proofs.YthlpjdjipchdkaaDoor.E
open Go
set_option linter.unusedSimpArgs false
set_option linter.unusedVariables false
theorem F_cmpCompareint_eq (k : Nat) (a b : Int) : F_cmpCompareint (k + 1) a b = some (((if a < b then -1 else if b < a then 1 else 0), ()), ()) := by
  rw [F_cmpCompareint_step, br_f (by simp), br_f (by simp)]
  by_cases h1 : a < b
  · rw [br_t (by simpa using h1), if_pos h1]
  · rw [br_f (by simpa using h1), if_neg h1]
    by_cases h2 : b < a
    · rw [br_t (by simpa using h2), if_pos h2]
    · rw [br_f (by simpa using h2), if_neg h2]
theorem F_cmpOrint_eq (k : Nat) (x y : Int) : F_cmpOrint (k + 4) [x, y] = some (((if x = 0 then y else x), ()), ()) := by
  rw [F_cmpOrint_step, L_cmpOrint_0_step]
  by_cases hx : x = 0
  · subst hx
    rw [br_t (by simp), br_t (by simp [inB]), br_f (by simp [List.getD]), L_cmpOrint_0_step, br_t (by rw [wr (by omega)]; simp), br_t (by rw [wr (by omega)]; simp [inB])]
    rw [wr (x := (0 : Int) + 1) (by omega)]
    by_cases hy : y = 0
    · subst hy
      rw [br_f (by simp [List.getD]), L_cmpOrint_0_step, br_f (by rw [wr (by omega)]; simp)]
      rfl
    · rw [br_t (by simp [List.getD, hy])]
      simp [List.getD]
  · rw [br_t (by simp), br_t (by simp [inB]), br_t (by simp [List.getD, hx])]
    simp [List.getD, hx]
theorem ordI_sgn (a b : HId) : (if (if a.1 < b.1 then (-1 : Int) else if b.1 < a.1 then 1 else 0) = 0 then (if a.2.1 < b.2.1 then (-1 : Int) else if b.2.1 < a.2.1 then 1 else 0) else (if a.1 < b.1 then (-1 : Int) else if b.1 < a.1 then 1 else 0)) = ordI a b := by
  unfold ordI
  by_cases h1 : a.1 < b.1
  · simp [h1]
  · by_cases h2 : b.1 < a.1
    · simp [h1, h2]
    · simp [h1, h2]
theorem F_stampOrderIds_eq (k : Nat) (a b : TId) : F_stampOrderIds (k + 5) a b = some ((ordI a b, ()), ()) := by
  rw [F_stampOrderIds_step, F_cmpCompareint_eq]
  simp only [bd_s]
  rw [F_cmpCompareint_eq]
  simp only [bd_s]
  rw [F_cmpOrint_eq]
  simp only [bd_s, ordI_sgn]
theorem F_stampOrderStamps_eq (k : Nat) (a b : TId) : F_stampOrderStamps (k + 5) a b = some ((ordI a b, ()), ()) := by
  rw [F_stampOrderStamps_step, F_cmpCompareint_eq]
  simp only [bd_s]
  rw [F_cmpCompareint_eq]
  simp only [bd_s]
  rw [F_cmpOrint_eq]
  simp only [bd_s, ordI_sgn]
def lateW (a b : TWord) : Bool := decide ((if ordI a.2.1 b.2.1 = 0 then ordI a.2.2.1 b.2.2.1 else ordI a.2.1 b.2.1) > 0)
theorem F_regswordlater_eq (k : Nat) (a b : TWord) : F_regswordlater (k + 6) a b = some ((lateW a b, ()), ()) := by
  rw [F_regswordlater_step, F_stampOrderStamps_eq]
  simp only [bd_s]
  rw [F_stampOrderIds_eq]
  simp only [bd_s]
  rw [F_cmpOrint_eq]
  rfl
def wOf (x : TWd) : TWord := (x.2.2.1, (x.2.2.2.1, (x.2.1, ())))
def rOp (i : TId) : Bool := decide (i.1 ≥ 0) && decide (i.1 < 16) && decide (i.2.1 ≥ 1) && decide (i.2.1 ≤ 1048576)
def rStamp (i : TId) : Bool := decide (i.1 ≥ 1) && decide (i.1 ≤ 1099511627776) && decide (i.2.1 ≥ 0) && decide (i.2.1 < 16)
def rBlock (i : TId) : Bool := decide (i = (0, 0, ())) || decide (i = (1, 0, ())) || rOp i
def rWd (x : TWd) : Bool := rBlock x.1 && rStamp x.2.2.2.1 && rOp x.2.1
theorem F_stampRightOp_eq (k : Nat) (i : TId) : F_stampRightOp (k + 1) i = some ((rOp i, ()), ()) := by
  rw [F_stampRightOp_step]; unfold rOp; simp only [cond_f]
theorem F_stampRightStamp_eq (k : Nat) (i : TId) : F_stampRightStamp (k + 1) i = some ((rStamp i, ()), ()) := by
  rw [F_stampRightStamp_step]; unfold rStamp; simp only [cond_f]
theorem F_stampRightBlock_eq (k : Nat) (i : TId) : F_stampRightBlock (k + 2) i = some ((rBlock i, ()), ()) := by
  rw [F_stampRightBlock_step, F_stampRightOp_eq]
  simp only [eqI, cond_t, bd_s]
  unfold rBlock
  cases (decide (i = (0, 0, ())) || decide (i = (1, 0, ()))) <;> rfl
theorem F_ref03RightOp_eq (k : Nat) (i : TId) : F_ref03RightOp (k + 1) i = some ((rOp i, ()), ()) := by
  rw [F_ref03RightOp_step]
  unfold rOp
  simp only [cond_f]
  have : decide (i.1 ≤ 15) = decide (i.1 < 16) := by apply decide_eq_decide.2; omega
  rw [this]
theorem F_ref03RightStamp_eq (k : Nat) (i : TId) : F_ref03RightStamp (k + 1) i = some ((rStamp i, ()), ()) := by
  rw [F_ref03RightStamp_step]
  unfold rStamp
  simp only [cond_f]
  have : decide (i.2.1 ≤ 15) = decide (i.2.1 < 16) := by apply decide_eq_decide.2; omega
  rw [this]
theorem F_ref03RightBlock_eq (k : Nat) (i : TId) : F_ref03RightBlock (k + 2) i = some ((rBlock i, ()), ()) := by
  rw [F_ref03RightBlock_step, F_ref03RightOp_eq]
  simp only [cond_t, cond_f, bd_s]
  congr 3
  obtain ⟨a, b, u⟩ := i
  unfold rBlock
  rw [Bool.eq_iff_iff]
  simp only [Bool.or_eq_true, Bool.and_eq_true, beq_iff_eq, decide_eq_true_eq, Prod.mk.injEq, and_true]
  constructor
  · rintro (h | ⟨h1, h2 | h2⟩)
    · exact .inr h
    · exact .inl (.inl ⟨h2, h1⟩)
    · exact .inl (.inr ⟨h2, h1⟩)
  · rintro ((h | h) | h)
    · exact .inr ⟨h.2, .inl h.1⟩
    · exact .inr ⟨h.2, .inr h.1⟩
    · exact .inl h
theorem F_ref15Right_eq (k : Nat) (x : TWd) : F_ref15Right (k + 3) x = some ((rWd x, ()), ()) := by
  rw [F_ref15Right_step, F_ref03RightBlock_eq]
  simp only [bd_s, F_ref03RightStamp_eq, F_ref03RightOp_eq]
  unfold rWd
  cases rBlock x.1 <;> cases rStamp x.2.2.2.1 <;> cases rOp x.2.1 <;> rfl
abbrev TEs := List (TId × TWord)
def sayE (es : TEs) (x : TWd) : TEs :=
  if rWd x = true then (match mfind eqId es x.1 with | some old => if lateW (wOf x) old = true then mput eqId es x.1 (wOf x) else es | none => mput eqId es x.1 (wOf x)) else es
def sayOk (es : TEs) (x : TWd) : Bool :=
  rWd x && (match mfind eqId es x.1 with | some old => lateW (wOf x) old | none => true)
theorem F_regsRegsSay_eq (k : Nat) (es : TEs) (x : TWd) : F_regsRegsSay (k + 8) (es, ()) x.1 x.2.2.1 x.2.2.2.1 x.2.1 = some ((sayOk es x, ((if rWd x = true then 0 else 10), ())), ((sayE es x, ()), ())) := by
  rw [F_regsRegsSay_step, F_stampRightBlock_eq]
  simp only [bd_s]
  unfold sayOk sayE rWd
  cases h1 : rBlock x.1 with
  | false => simp
  | true =>
    simp only [Bool.not_true, br_false, F_stampRightStamp_eq, bd_s]
    cases h2 : rStamp x.2.2.2.1 with
    | false => simp
    | true =>
      simp only [Bool.not_true, cond_false, br_false, F_stampRightOp_eq, bd_s]
      cases h3 : rOp x.2.1 with
      | false => simp
      | true =>
        simp only [Bool.not_true, cond_false, br_false, Bool.and_self, if_true, Bool.true_and]
        cases h4 : mfind (denEq (.pair (.int .i64) (.pair (.int .i64) .unit))) es x.1 with
        | none =>
          simp only [Option.isSome_none, br_false]
          rfl
        | some old =>
          simp only [Option.isSome_some, br_true, Option.getD_some]
          have hl := F_regswordlater_eq (k + 1) (wOf x) old
          have hw : (x.2.2.1, (x.2.2.2.1, (x.2.1, ()))) = wOf x := rfl
          rw [hw, hl]
          simp only [bd_s, cond_f, cond_true]
          cases lateW (wOf x) old <;> simp
theorem F_regsRegsOn_eq (k : Nat) (es : TEs) (i : TId) : F_regsRegsOn (k + 1) (es, ()) i = some ((((mfind eqId es i).getD zWo).1, ()), ()) := by rw [F_regsRegsOn_step]
theorem F_regsRegsLast_eq (k : Nat) (es : TEs) (i : TId) : F_regsRegsLast (k + 1) (es, ()) i = some ((((mfind eqId es i).getD zWo).2.1, (((mfind eqId es i).getD zWo).2.2.1, ((mfind eqId es i).isSome, ()))), ()) := by rw [F_regsRegsLast_step]
theorem F_regsNew_eq (k : Nat) : F_regsNew (k + 1) = some ((([], ()), ()), ()) := by rw [F_regsNew_step]
theorem F_law15alive_eq (k : Nat) : F_law15alive (k + 12) = some ((true, ()), ()) := by
  rw [F_law15alive_step, F_regsNew_eq]
  simp only [bd_s]
  have s1 := F_regsRegsSay_eq (k + 3) [] ((0, (1, ())), ((0, (2, ())), (true, ((5, (0, ())), ()))))
  refine Eq.trans (congrArg (fun z => bd z _) s1) ?_
  simp only [bd_s]
  have s2 := F_regsRegsSay_eq (k + 3) (sayE [] ((0, (1, ())), ((0, (2, ())), (true, ((5, (0, ())), ()))))) ((0, (1, ())), ((0, (3, ())), (false, ((4, (0, ())), ()))))
  refine Eq.trans (congrArg (fun z => bd z _) s2) ?_
  simp only [bd_s]
  have s3 := F_regsRegsSay_eq (k + 3) (sayE (sayE [] ((0, (1, ())), ((0, (2, ())), (true, ((5, (0, ())), ()))))) ((0, (1, ())), ((0, (3, ())), (false, ((4, (0, ())), ()))))) ((0, (1, ())), ((0, (3, ())), (false, ((0, (0, ())), ()))))
  refine Eq.trans (congrArg (fun z => bd z _) s3) ?_
  simp only [bd_s]
  have he : sayE (sayE (sayE [] ((0, (1, ())), ((0, (2, ())), (true, ((5, (0, ())), ()))))) ((0, (1, ())), ((0, (3, ())), (false, ((4, (0, ())), ()))))) ((0, (1, ())), ((0, (3, ())), (false, ((0, (0, ())), ())))) = [((0, (1, ())), (true, ((5, (0, ())), ((0, (2, ())), ()))))] := by rfl
  rw [he, F_regsRegsLast_eq]
  simp only [bd_s]
  rw [br_t (by decide), F_regsRegsOn_eq]
  simp only [bd_s]
  rw [br_t (by decide), F_regsRegsAll_step, br_t (by decide)]
  simp only [bd_s]
  have ha : allOf [((0, (1, ())), (true, ((5, (0, ())), ((0, (2, ())), ()))))] = [(0, (1, ()))] := by simp [allOf]
  rw [ha]
  rfl
end Go.Proofs.YthlpjdjipchdkaaDoor.E

namespace Go.Proofs.YthlpjdjipchdkaaDoor.E
open Go
set_option linter.unusedSimpArgs false
set_option linter.unusedVariables false
def sayO (o : Option TWord) (x : TWd) : Option TWord :=
  if rWd x = true then (match o with | some old => if lateW (wOf x) old = true then some (wOf x) else some old | none => some (wOf x)) else o
theorem find_say (es : TEs) (x : TWd) (z : TId) : mfind eqId (sayE es x) z = if z = x.1 then sayO (mfind eqId es z) x else mfind eqId es z := by
  unfold sayE sayO
  by_cases hz : z = x.1
  · subst hz
    rw [if_pos rfl]
    by_cases hr : rWd x = true
    · rw [if_pos hr, if_pos hr]
      cases hf : mfind eqId es x.1 with
      | none => simp only; rw [mfind_put, if_pos rfl]
      | some old =>
        simp only
        by_cases hl : lateW (wOf x) old = true
        · rw [if_pos hl, if_pos hl, mfind_put, if_pos rfl]
        · rw [if_neg hl, if_neg hl, hf]
    · rw [if_neg hr, if_neg hr]
  · rw [if_neg hz]
    by_cases hr : rWd x = true
    · rw [if_pos hr]
      cases hf : mfind eqId es x.1 with
      | none => simp only; rw [mfind_put, if_neg hz]
      | some old =>
        simp only
        by_cases hl : lateW (wOf x) old = true
        · rw [if_pos hl, mfind_put, if_neg hz]
        · rw [if_neg hl]
    · rw [if_neg hr]
theorem ordI_pos (x y : TId) : ordI x y > 0 ↔ y.1 < x.1 ∨ (y.1 = x.1 ∧ y.2.1 < x.2.1) := by
  unfold ordI
  by_cases h1 : x.1 < y.1
  · simp [h1]; omega
  · by_cases h2 : y.1 < x.1
    · simp [h1, h2]
    · by_cases h3 : x.2.1 < y.2.1
      · simp [h1, h2, h3]; omega
      · by_cases h4 : y.2.1 < x.2.1
        · simp [h1, h2, h3, h4]; omega
        · simp [h1, h2, h3, h4]
theorem ordI_zero (x y : TId) : ordI x y = 0 ↔ x.1 = y.1 ∧ x.2.1 = y.2.1 := by
  unfold ordI
  by_cases h1 : x.1 < y.1
  · simp [h1]; omega
  · by_cases h2 : y.1 < x.1
    · simp [h1, h2]; omega
    · by_cases h3 : x.2.1 < y.2.1
      · simp [h1, h2, h3]; omega
      · by_cases h4 : y.2.1 < x.2.1
        · simp [h1, h2, h3, h4]; omega
        · simp [h1, h2, h3, h4]; omega
theorem late_iff (a b : TWord) : lateW a b = true ↔ b.2.1.1 < a.2.1.1 ∨ (b.2.1.1 = a.2.1.1 ∧ (b.2.1.2.1 < a.2.1.2.1 ∨ (b.2.1.2.1 = a.2.1.2.1 ∧ (b.2.2.1.1 < a.2.2.1.1 ∨ (b.2.2.1.1 = a.2.2.1.1 ∧ b.2.2.1.2.1 < a.2.2.1.2.1))))) := by
  unfold lateW
  rw [decide_eq_true_eq]
  by_cases h : ordI a.2.1 b.2.1 = 0
  · rw [if_pos h, ordI_pos]
    rw [ordI_zero] at h
    omega
  · rw [if_neg h, ordI_pos]
    rw [ordI_zero] at h
    omega
end Go.Proofs.YthlpjdjipchdkaaDoor.E

namespace Go.Proofs.YthlpjdjipchdkaaDoor.E
open Go
set_option linter.unusedVariables false
set_option maxRecDepth 100000
noncomputable def F_law15RegsLatest (k : Nat) (a0 : List (TWd)) (a1 : TId) (a2 : Bool) : Option (((Bool) × (Unit)) × (Unit)) := fnE E0 k 5 (a0, a1, a2, ())
noncomputable def L_law15RegsLatest_0 (k : Nat) (s0 : List (TWd)) (s1 : Unit) : Nat → (Bool) × ((Int) × ((TRegs) × (Unit))) → Option (LO ((Bool) × (Unit)) ((Bool) × ((Int) × ((TRegs) × (Unit)))) ((TRegs) × (Unit))) :=
  loopF true 0 101 6000000 5 cut6000000_5_0 (s0, s1, ()) (fun σ K => bodyAt E0 (fnE E0 k) (inl5 E0 (fnE E0 k) k) 5 (rvOf 5) k (codeOf 5 0) _ σ K)
theorem L_law15RegsLatest_0_step (k m : Nat) (s0 : List (TWd)) (s1 : Unit) (x0 : Bool) (x1 : Int) (x2 : TRegs) : L_law15RegsLatest_0 k s0 s1 (m + 1) (x0, x1, x2, ()) =
  (br (decide (x1 < (((List.length s0) : Nat) : Int)))
   (br (inB x1 (List.length s0))
    (br (decide ((List.getD s0 (Int.toNat x1) zWd).2.2.2.1.1 ≥ (549755813888 : Int)))
     (some (.ret (true, ()) (x2, ())))
     (br (inB x1 (List.length s0))
      (br (inB x1 (List.length s0))
       (br (inB x1 (List.length s0))
        (br (inB x1 (List.length s0))
         (bd (F_regsRegsSay k x2 (List.getD s0 (Int.toNat x1) zWd).1 (List.getD s0 (Int.toNat x1) zWd).2.2.1 (List.getD s0 (Int.toNat x1) zWd).2.2.2.1 (List.getD s0 (Int.toNat x1) zWd).2.1) (fun (r : ((Bool) × ((Int) × (Unit))) × ((TRegs) × (Unit))) => (L_law15RegsLatest_0 k s0 s1 m (x0, ((IntKind.wrap (IntKind.i64) (x1 + (1 : Int))), (r.2.1, ()))))))
         none)
        none)
       none)
      none))
    none)
   (some (.brk (x0, (x1, (x2, ())))))) := by kernel_rfl
theorem F_law15RegsLatest_step (k : Nat) (a0 : List (TWd)) (a1 : TId) (a2 : Bool) : F_law15RegsLatest (k + 1) a0 a1 a2 =
  (bd (F_law15alive k ) (fun (r : ((Bool) × (Unit)) × (Unit)) => (br (!r.1.1)
    (some ((false, ()), ()))
    (br (decide ((((List.length a0) : Nat) : Int) > (80 : Int)))
     (some ((true, ()), ()))
     (bd (F_regsNew k ) (fun (r1 : ((TRegs) × (Unit)) × (Unit)) => (bdL (L_law15RegsLatest_0 k a0 () k (false, ((0 : Int), (r1.1.1, ()))))
       (fun (b : (Bool) × ((Int) × ((TRegs) × (Unit)))) => (bd (F_regsRegsSay k b.2.2.1 a1 a2 ((1099511627776 : Int), ((15 : Int), ())) ((15 : Int), ((1048576 : Int), ()))) (fun (r2 : ((Bool) × ((Int) × (Unit))) × ((TRegs) × (Unit))) => (br (r2.1.2.1 != (0 : Int))
         (br (!r2.1.1)
          (bd (F_ref15Right k (a1, (((0 : Int), ((1 : Int), ())), (false, (((1 : Int), ((0 : Int), ())), ()))))) (fun (r3 : ((Bool) × (Unit)) × (Unit)) => (some (((cond true (!r3.1.1) false), ()), ()))))
          (some ((false, ()), ())))
         (bd (F_regsRegsSay k r2.2.1 a1 (!a2) ((1099511627776 : Int), ((15 : Int), ())) ((15 : Int), ((1048576 : Int), ()))) (fun (r3 : ((Bool) × ((Int) × (Unit))) × ((TRegs) × (Unit))) => (br (cond (cond r2.1.1 (!r3.1.1) false) (r3.1.2.1 == (0 : Int)) false)
           (bd (F_regsRegsOn k r3.2.1 a1) (fun (r4 : ((Bool) × (Unit)) × (Unit)) => (some (((cond true (r4.1.1 == a2) false), ()), ()))))
           (some (((cond false (false == a2) false), ()), ())))))))))
       (fun (j : Nat) => (fun (b : (Bool) × ((Int) × ((TRegs) × (Unit)))) => none))
       (fun (q : (Bool) × (Unit)) => (fun (b : (TRegs) × (Unit)) => (some (q, ()))))))))))) := by kernel_rfl
end Go.Proofs.YthlpjdjipchdkaaDoor.E

namespace Go.Proofs.YthlpjdjipchdkaaDoor.E
open Go
set_option linter.unusedSimpArgs false
set_option linter.unusedVariables false
def Early (es : TEs) : Prop := ∀ z w, mfind eqId es z = some w → w.2.1.1 < 549755813888
theorem early_say {es : TEs} (h : Early es) {x : TWd} (hx : x.2.2.2.1.1 < 549755813888) : Early (sayE es x) := by
  intro z w
  rw [find_say]
  split
  · unfold sayO
    split
    · split
      · split
        · intro e; cases e; exact hx
        · rename_i old hf _; intro e; cases e; exact h z _ hf
      · intro e; cases e; exact hx
    · exact h z w
  · exact h z w
theorem latest_loop (k : Nat) {a : List TWd} (ha : a.length ≤ 80) : ∀ m (i : Nat) (es : TEs), i ≤ a.length → a.length - i < m → Early es →
    (∃ b, L_law15RegsLatest_0 (k + 8) a () m (false, ((i : Int), ((es, ()), ()))) = some (.ret (true, ()) b)) ∨
    ∃ b es', L_law15RegsLatest_0 (k + 8) a () m (false, ((i : Int), ((es, ()), ()))) = some (.brk (false, (b, ((es', ()), ())))) ∧ Early es'
  | 0, i, es, _, h, _ => by omega
  | m + 1, i, es, h1, h2, h3 => by
    rw [L_law15RegsLatest_0_step]
    by_cases hi : i < a.length
    · rw [br_t (i_lt hi), br_t (i_in hi), getD_of hi, i_nx (by omega)]
      by_cases hx : a[i].2.2.2.1.1 ≥ (549755813888 : Int)
      · rw [br_t (decide_eq_true hx)]
        exact .inl ⟨_, rfl⟩
      · rw [br_f (decide_eq_false hx), br_t (i_in hi), br_t (i_in hi), br_t (i_in hi), br_t (i_in hi), F_regsRegsSay_eq]
        simp only [bd_s]
        exact latest_loop k ha m (i + 1) _ (by omega) (by omega) (early_say h3 (by omega))
    · have : i = a.length := by omega
      subst this
      rw [br_f (i_ge _)]
      exact .inr ⟨_, es, rfl, h3⟩
def wdL (a1 : TId) (on : Bool) : TWd := (a1, ((15, (1048576, ())), (on, ((1099511627776, (15, ())), ()))))
theorem wdL_r (a1 : TId) (on : Bool) : rWd (wdL a1 on) = rBlock a1 := by
  unfold rWd wdL
  rw [show rStamp (1099511627776, (15, ())) = true from rfl, show rOp (15, (1048576, ())) = true from rfl]
  simp
theorem wdL_first {es : TEs} (h : Early es) (a1 : TId) (on : Bool) (hr : rBlock a1 = true) : sayOk es (wdL a1 on) = true ∧ mfind eqId (sayE es (wdL a1 on)) a1 = some (wOf (wdL a1 on)) := by
  rw [find_say, if_pos (show a1 = (wdL a1 on).1 from rfl)]
  unfold sayOk sayO
  rw [wdL_r, hr, Bool.true_and, if_pos rfl]
  show (match mfind eqId es a1 with | some old => lateW (wOf (wdL a1 on)) old | none => true) = true ∧ _
  cases hf : mfind eqId es a1 with
  | none => exact ⟨rfl, rfl⟩
  | some old =>
    have hl : lateW (wOf (wdL a1 on)) old = true := by
      rw [late_iff]
      have := h _ _ hf
      exact .inl (by show old.2.1.1 < 1099511627776; omega)
    simp only [hl, if_true, and_self]
theorem wdL_again {es : TEs} (a1 : TId) (on on' : Bool) (hr : rBlock a1 = true) (hf : mfind eqId es a1 = some (wOf (wdL a1 on))) : sayOk es (wdL a1 on') = false ∧ mfind eqId (sayE es (wdL a1 on')) a1 = some (wOf (wdL a1 on)) := by
  have hl : lateW (wOf (wdL a1 on')) (wOf (wdL a1 on)) = false := rfl
  rw [find_say, if_pos (show a1 = (wdL a1 on').1 from rfl)]
  unfold sayOk sayO
  rw [wdL_r, hr, Bool.true_and, if_pos rfl]
  show (match mfind eqId es a1 with | some old => lateW (wOf (wdL a1 on')) old | none => true) = false ∧ _
  rw [hf]
  simp only [hl, Bool.false_eq_true, if_false, and_self]
theorem F_law15RegsLatest_true (k : Nat) (a : List TWd) (z : TId) (on : Bool) (hk : 200 ≤ k) : F_law15RegsLatest (k + 13) a z on = some ((true, ()), ()) := by
  rw [F_law15RegsLatest_step, F_law15alive_eq]
  simp only [bd_s]
  rw [br_f (by simp)]
  by_cases hl : a.length > 80
  · rw [br_t (by simp; omega)]
  · rw [br_f (by simp; omega), F_regsNew_eq]
    simp only [bd_s]
    rcases latest_loop (k + 4) (a := a) (by omega) (k + 12) 0 [] (by omega) (by omega) (fun z w h => by cases h) with ⟨b, e⟩ | ⟨b, es, e, hE⟩
    · rw [show ((0 : Nat) : Int) = 0 from rfl] at e
      rw [e]
      simp only [bdL_r]
    · rw [show ((0 : Nat) : Int) = 0 from rfl] at e
      rw [e]
      simp only [bdL_b]
      have s1 := F_regsRegsSay_eq (k + 4) es (wdL z on)
      have s2 := F_regsRegsSay_eq (k + 4) (sayE es (wdL z on)) (wdL z (!on))
      rw [wdL_r] at s1 s2
      simp only [wdL] at s1 s2
      rw [s1]
      simp only [bd_s]
      cases hr : rBlock z with
      | false =>
        have hok : sayOk es (z, ((15, (1048576, ())), (on, ((1099511627776, (15, ())), ())))) = false := by
          unfold sayOk
          have := wdL_r z on
          unfold wdL at this
          rw [this, hr]
          rfl
        rw [br_t (by simp), hok, br_t (by rfl), F_ref15Right_eq]
        simp only [bd_s]
        have : rWd (z, (((0 : Int), ((1 : Int), ())), (false, (((1 : Int), ((0 : Int), ())), ())))) = false := by
          unfold rWd
          simp only [hr, Bool.false_and]
        rw [this]
        rfl
      | true =>
        rw [br_f (by simp)]
        obtain ⟨f1, f2⟩ := wdL_first hE z on hr
        obtain ⟨g1, g2⟩ := wdL_again (es := sayE es (wdL z on)) z on (!on) hr f2
        simp only [wdL] at f1 g1 g2
        rw [s2]
        simp only [bd_s]
        rw [f1, g1, hr, br_t (by simp), F_regsRegsOn_eq]
        simp only [bd_s]
        rw [g2]
        simp [wOf]
end Go.Proofs.YthlpjdjipchdkaaDoor.E

namespace Go.Proofs.YthlpjdjipchdkaaDoor.E
open Go Go.Proofs
theorem prim_ok : PrimOk Tryd.prog E0 := fun f dst svs σ σ' sv h => by cases h
theorem hands_ok : HandsOk Tryd.prog glob0 handT := by
  intro f e he a q o hg
  unfold handT tab at he
  split at he
  · rename_i hf
    obtain rfl := Nat.eq_of_beq_eq_true hf
    obtain rfl := Option.some.inj he
    exact hAll_ok a q o hg
  · cases he
theorem fn_ok (k : Nat) : FnOk Tryd.prog E0 (fnE E0 k) := mkEnv_ok (by kernel_rfl) prim_ok (by kernel_rfl) (by kernel_rfl) k hands_ok (by kernel_rfl)
end Go.Proofs.YthlpjdjipchdkaaDoor.E

