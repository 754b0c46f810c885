/- The forms of the functions, and plain laws on what they come to. No condition. -/
import Derived.Test.YtnffdeokhcojfaaED
import Derived.Test.YtnffdeokhcojfaaProg
import Derived.KernelRfl
import Derived.IntWalk
import Derived.WalkKit

namespace Go.Proofs.Ytnffdeokhcojfaa.E
open Go Go.Proofs
set_option linter.unusedVariables false

abbrev u8 : Ty := .int .u8
abbrev i64 : Ty := .int .i64
abbrev bs : Ty := .sl false u8
abbrev cur : Ty := .pair bs (.pair .bool .unit)
abbrev call : Ty := .pair i64 (.pair i64 .unit)
def growPrim (gs : List (FuncId × Ty × Nat)) (f : FuncId) (dst : Option Nat) (svs : List SV) (σ : St) : OpR :=
  match tab gs f, dst, svs with
  | some (u, b), some d, [.nl, .v _ (.int .i64) n] => some (makeB n n b, .sf d, σ.new d (.arr false u []))
  | _, _, _ => none
def prim0 : FuncId → Option Nat → List SV → St → OpR := growPrim [(54, u8, 1)]

def sigT : List (Nat × Sig) :=
  [(3, ⟨[(true, bs), (true, i64)], [.bool]⟩),
   (4, ⟨[(true, bs), (true, bs), (true, bs)], [.bool]⟩),
   (5, ⟨[(true, i64), (true, i64)], [.bool]⟩),
   (6, ⟨[(true, bs)], [.bool]⟩),
   (7, ⟨[(true, bs), (true, i64)], [.bool]⟩),
   (8, ⟨[(true, .sl false bs), (true, i64)], [.bool]⟩),
   (9, ⟨[(true, .sl false bs), (true, bs)], [.bool]⟩),
   (10, ⟨[(true, i64), (true, .str)], [.bool]⟩),
   (11, ⟨[(true, i64), (true, .str)], [.bool]⟩),
   (12, ⟨[(true, bs), (true, .sl false call)], [.bool]⟩),
   (13, ⟨[(true, bs), (true, .sl false call)], [.bool]⟩),
   (14, ⟨[], [.bool]⟩),
   (15, ⟨[(true, bs)], [.sl true u8, .bool]⟩),
   (16, ⟨[(true, bs), (false, i64)], [.sl true u8, i64, i64]⟩),
   (17, ⟨[(true, bs)], [i64]⟩),
   (18, ⟨[], [.bool]⟩),
   (19, ⟨[(false, i64)], [.sl true u8, .bool]⟩),
   (20, ⟨[(true, bs), (true, bs)], [.bool]⟩),
   (21, ⟨[(true, bs)], [.ref true cur]⟩),
   (22, ⟨[(false, .ref true cur), (false, i64)], [i64]⟩),
   (23, ⟨[(true, .ref false cur)], [.bool]⟩),
   (24, ⟨[(true, .ref false cur)], [i64]⟩),
   (25, ⟨[(true, bs)], [.sl true u8]⟩),
   (26, ⟨[(true, bs)], [.sl true u8, .bool]⟩),
   (27, ⟨[(true, bs), (false, i64)], [.sl true u8, i64, i64]⟩),
   (28, ⟨[(true, bs)], [.sl true bs, i64, i64]⟩),
   (29, ⟨[(true, bs)], [.sl true bs, i64, i64]⟩),
   (30, ⟨[(true, bs)], [i64]⟩),
   (31, ⟨[(true, .sl false bs), (true, .sl false bs)], [.bool]⟩),
   (32, ⟨[(true, .sl false bs), (false, i64)], [i64]⟩),
   (33, ⟨[(false, i64)], [.sl true u8, .bool]⟩),
   (34, ⟨[(false, .str)], [.sl true u8]⟩),
   (35, ⟨[(false, .str)], [.sl true u8]⟩),
   (36, ⟨[(false, .ref true cur), (false, i64)], [.str]⟩),
   (37, ⟨[(true, .ref false cur)], [.bool]⟩),
   (38, ⟨[(false, .ref true cur), (false, i64)], [i64]⟩),
   (39, ⟨[(false, .ref true cur), (false, i64)], [.str]⟩),
   (40, ⟨[(false, .ref true cur), (false, i64)], [bs]⟩),
   (41, ⟨[(false, .ref true cur), (false, i64)], [.sl true u8]⟩),
   (42, ⟨[(true, .sl false bs)], [.sl true u8]⟩),
   (43, ⟨[(false, i64)], [.sl true u8]⟩),
   (44, ⟨[(true, bs)], [i64]⟩),
   (45, ⟨[(true, bs)], [.sl true u8]⟩),
   (46, ⟨[], [.arr 16 (.int .u32)]⟩),
   (47, ⟨[(false, i64)], [i64]⟩),
   (48, ⟨[(false, .ref true cur)], []⟩),
   (49, ⟨[(false, u8)], [i64]⟩),
   (50, ⟨[(false, .ref true cur), (false, i64)], [bs, .bool]⟩),
   (51, ⟨[(false, i64)], [.sl true u8]⟩),
   (52, ⟨[(true, bs)], [i64]⟩),
   (53, ⟨[(false, .ref true cur)], []⟩),
   (55, ⟨[(false, .int .u64)], [i64]⟩),
   (56, ⟨[(false, u8)], [i64]⟩),
   (57, ⟨[(false, .int .u32)], [i64]⟩),
   (58, ⟨[(false, .int .u64)], [i64]⟩)]

def cut4_0 : Cut := ⟨[(.v 0 true (.sl false (.int .u8))), (.v 1 true (.sl false (.int .u8))), (.v 2 true (.sl false (.int .u8))), (.s 7 30)], [(.a 30 false (.int .u8)), (.t 8 false (.int .i64))]⟩

def cut5_0 : Cut := ⟨[(.v 0 false (.int .i64)), (.v 1 false (.int .i64)), (.v 5 true (.sl false (.int .u8))), (.v 7 true (.sl false (.int .u8)))], [(.t 4 false .bool), (.t 9 false (.int .i64))]⟩

def cut8_0 : Cut := ⟨[(.v 0 true (.sl false (.sl false (.int .u8)))), (.v 1 false (.int .i64))], [(.t 4 false .bool), (.o 5 false (.int .u8)), (.t 6 false (.int .i64)), (.t 7 false (.int .i64)), (.t 8 false (.int .i64))]⟩

def cut9_0 : Cut := ⟨[(.v 0 true (.sl false (.sl false (.int .u8))))], [(.o 5 false (.int .u8)), (.t 6 false (.int .i64))]⟩

def cut12_0 : Cut := ⟨[(.s 5 22)], [(.a 22 false (.int .u8)), (.t 8 false (.int .i64))]⟩

def cut12_2 : Cut := ⟨[(.v 1 true (.sl false (.pair (.int .i64) (.pair (.int .i64) .unit)))), (.p 6 24), (.p 7 28)], [(.t 4 false .bool), (.r 24 false (.pair (.sl false (.int .u8)) (.pair .bool .unit))), (.r 28 false (.pair (.sl false (.int .u8)) (.pair .bool .unit))), (.t 9 false (.int .i64))]⟩

def cut13_0 : Cut := ⟨[(.v 1 true (.sl false (.pair (.int .i64) (.pair (.int .i64) .unit)))), (.p 5 20)], [(.t 4 false .bool), (.r 20 false (.pair (.sl false (.int .u8)) (.pair .bool .unit))), (.t 6 false .bool), (.t 7 false (.int .i64))]⟩

def cut17_0 : Cut := ⟨[(.p 3 3), (.v 8 true (.sl false (.int .u8))), (.v 9 false (.int .i64))], [(.r 3 false (.arr 16 (.int .u32))), (.t 4 false (.int .u32)), (.t 10 false (.int .i64))]⟩

def cut19_0 : Cut := ⟨[(.v 0 false (.int .i64)), (.v 4 false (.int .i64)), (.s 5 16), (.v 18 false (.int .i64))], [(.a 16 false (.int .u8)), (.t 19 false (.int .i64))]⟩

def cut20_0 : Cut := ⟨[(.v 0 true (.sl false (.int .u8))), (.v 1 true (.sl false (.int .u8)))], [(.t 4 false .bool), (.t 5 false (.int .i64))]⟩

def cut22_0 : Cut := ⟨[(.v 48 false (.sl false (.int .u8))), (.v 49 false (.int .i64))], [(.t 8 false (.int .i64)), (.t 50 false (.int .i64))]⟩

def cut28_0 : Cut := ⟨[(.v 0 true (.sl false (.int .u8)))], [(.o 2 false (.sl false (.int .u8))), (.t 3 false (.int .i64)), (.t 4 false (.int .i64)), (.o 5 false (.sl false (.int .u8))), (.t 6 false (.int .i64))]⟩

def cut29_0 : Cut := ⟨[(.v 0 true (.sl false (.int .u8)))], [(.o 2 false (.sl false (.int .u8))), (.t 3 false (.int .i64)), (.t 4 false (.int .i64)), (.o 5 false (.sl false (.int .u8))), (.t 6 false (.int .i64))]⟩

def cut30_0 : Cut := ⟨[(.v 0 true (.sl false (.int .u8)))], [(.t 3 false (.int .i64)), (.t 4 false (.int .i64))]⟩

def cut30_2 : Cut := ⟨[], [(.t 3 false (.int .i64)), (.t 5 false (.int .i64))]⟩

def cut31_0 : Cut := ⟨[(.v 0 true (.sl false (.sl false (.int .u8)))), (.v 1 true (.sl false (.sl false (.int .u8))))], [(.t 4 false .bool), (.t 5 false (.int .i64))]⟩

def cut32_0 : Cut := ⟨[(.v 0 true (.sl false (.sl false (.int .u8)))), (.v 1 false (.int .i64))], [(.t 5 false (.int .i64)), (.t 6 false (.int .i64))]⟩

def cut33_0 : Cut := ⟨[(.v 0 false (.int .i64))], [(.t 4 false (.int .i64)), (.t 5 false (.int .i64))]⟩

def cut33_2 : Cut := ⟨[(.s 6 24)], [(.t 0 false (.int .i64)), (.a 24 false (.int .u8)), (.t 7 false (.int .i64))]⟩

def cut33_4 : Cut := ⟨[(.v 4 false (.int .i64))], [(.t 8 false (.int .i64)), (.t 9 false (.int .i64))]⟩

def cut35_0 : Cut := ⟨[(.v 0 false .str)], [(.o 3 false (.int .u8)), (.t 5 false (.int .i64))]⟩

def cut38_0 : Cut := ⟨[], [(.t 5 false (.int .i64)), (.t 6 false (.int .i64)), (.t 7 false (.int .i64))]⟩

def cut38_2 : Cut := ⟨[(.p 0 0), (.v 5 false (.int .i64))], [(.r 0 false (.pair (.sl false (.int .u8)) (.pair .bool .unit))), (.t 8 false (.int .i64)), (.t 9 false (.int .i64))]⟩

def cut42_0 : Cut := ⟨[(.v 9 true (.sl false (.sl false (.int .u8)))), (.v 10 false (.int .i64))], [(.t 3 false (.int .i64)), (.t 11 false (.int .i64))]⟩

def cut42_2 : Cut := ⟨[(.v 25 true (.sl false (.sl false (.int .u8)))), (.v 26 false (.int .i64))], [(.o 6 false (.int .u8)), (.t 27 false (.int .i64))]⟩

def cut46_0 : Cut := ⟨[(.p 1 1)], [(.r 1 false (.arr 16 (.int .u32))), (.t 4 false (.int .i64))]⟩

def cut46_2 : Cut := ⟨[], [(.t 3 false (.int .u32)), (.t 9 false (.int .i64))]⟩

def annT : List (Nat × List (Nat × Cut)) :=
  [(4, [(0, cut4_0)]),
   (5, [(0, cut5_0)]),
   (8, [(0, cut8_0)]),
   (9, [(0, cut9_0)]),
   (12, [(0, cut12_0), (2, cut12_2)]),
   (13, [(0, cut13_0)]),
   (17, [(0, cut17_0)]),
   (19, [(0, cut19_0)]),
   (20, [(0, cut20_0)]),
   (22, [(0, cut22_0)]),
   (28, [(0, cut28_0)]),
   (29, [(0, cut29_0)]),
   (30, [(0, cut30_0), (2, cut30_2)]),
   (31, [(0, cut31_0)]),
   (32, [(0, cut32_0)]),
   (33, [(0, cut33_0), (2, cut33_2), (4, cut33_4)]),
   (35, [(0, cut35_0)]),
   (38, [(0, cut38_0), (2, cut38_2)]),
   (42, [(0, cut42_0), (2, cut42_2)]),
   (46, [(0, cut46_0), (2, cut46_2)])]

noncomputable def E0 : Env := mkEnv Try.prog sigT annT prim0

noncomputable def codeOf (f id : Nat) : Code := match Try.prog.funcs[f]? with
  | some F => (match F.body with | some c => (findB id c).getD .skip | none => .skip)
  | none => .skip
noncomputable def rvOf (f : Nat) : List ResultVar := match Try.prog.funcs[f]? with
  | some F => F.results.toList
  | none => []

end Go.Proofs.Ytnffdeokhcojfaa.E

namespace Go.Proofs.Ytnffdeokhcojfaa.E
open Go
set_option linter.unusedVariables false
set_option maxRecDepth 100000

def tab0 : List UInt8 := ([0, 1, 2, 2, 3, 3, 3, 3, 4, 4, 4, 4, 4, 4, 4, 4, 5, 5, 5, 5, 5, 5, 5, 5, 5, 5, 5, 5, 5, 5, 5, 5, 6, 6, 6, 6, 6, 6, 6, 6, 6, 6, 6, 6, 6, 6, 6, 6, 6, 6, 6, 6, 6, 6, 6, 6, 6, 6, 6, 6, 6, 6, 6, 6, 7, 7, 7, 7, 7, 7, 7, 7, 7, 7, 7, 7, 7, 7, 7, 7, 7, 7, 7, 7, 7, 7, 7, 7, 7, 7, 7, 7, 7, 7, 7, 7, 7, 7, 7, 7, 7, 7, 7, 7, 7, 7, 7, 7, 7, 7, 7, 7, 7, 7, 7, 7, 7, 7, 7, 7, 7, 7, 7, 7, 7, 7, 7, 7, 8, 8, 8, 8, 8, 8, 8, 8, 8, 8, 8, 8, 8, 8, 8, 8, 8, 8, 8, 8, 8, 8, 8, 8, 8, 8, 8, 8, 8, 8, 8, 8, 8, 8, 8, 8, 8, 8, 8, 8, 8, 8, 8, 8, 8, 8, 8, 8, 8, 8, 8, 8, 8, 8, 8, 8, 8, 8, 8, 8, 8, 8, 8, 8, 8, 8, 8, 8, 8, 8, 8, 8, 8, 8, 8, 8, 8, 8, 8, 8, 8, 8, 8, 8, 8, 8, 8, 8, 8, 8, 8, 8, 8, 8, 8, 8, 8, 8, 8, 8, 8, 8, 8, 8, 8, 8, 8, 8, 8, 8, 8, 8, 8, 8, 8, 8, 8, 8, 8, 8, 8, 8, 8, 8, 8, 8, 8, 8] : List UInt8)

noncomputable def F20 (k : Nat) (a0 : List (Int)) (a1 : List (Int)) : Option (((Bool) × (Unit)) × (Unit)) := fnE E0 k 20 (a0, a1, ())

noncomputable def F25 (k : Nat) (a0 : List (Int)) : Option (((List (Int)) × (Unit)) × (Unit)) := fnE E0 k 25 (a0, ())

noncomputable def F47 (k : Nat) (a0 : Int) : Option (((Int) × (Unit)) × (Unit)) := fnE E0 k 47 (a0, ())

noncomputable def F48 (k : Nat) (a0 : (List (Int)) × ((Bool) × (Unit))) : Option ((Unit) × (((List (Int)) × ((Bool) × (Unit))) × (Unit))) := fnE E0 k 48 (a0, ())

noncomputable def F49 (k : Nat) (a0 : Int) : Option (((Int) × (Unit)) × (Unit)) := fnE E0 k 49 (a0, ())

noncomputable def F50 (k : Nat) (a0 : (List (Int)) × ((Bool) × (Unit))) (a1 : Int) : Option (((List (Int)) × ((Bool) × (Unit))) × (((List (Int)) × ((Bool) × (Unit))) × (Unit))) := fnE E0 k 50 (a0, a1, ())

noncomputable def F53 (k : Nat) (a0 : (List (Int)) × ((Bool) × (Unit))) : Option ((Unit) × (((List (Int)) × ((Bool) × (Unit))) × (Unit))) := fnE E0 k 53 (a0, ())

noncomputable def F55 (k : Nat) (a0 : Int) : Option (((Int) × (Unit)) × (Unit)) := fnE E0 k 55 (a0, ())

noncomputable def F56 (k : Nat) (a0 : Int) : Option (((Int) × (Unit)) × (Unit)) := fnE E0 k 56 (a0, ())

noncomputable def F57 (k : Nat) (a0 : Int) : Option (((Int) × (Unit)) × (Unit)) := fnE E0 k 57 (a0, ())

noncomputable def F58 (k : Nat) (a0 : Int) : Option (((Int) × (Unit)) × (Unit)) := fnE E0 k 58 (a0, ())

noncomputable def F45 (k : Nat) (a0 : List (Int)) : Option (((List (Int)) × (Unit)) × (Unit)) := fnE E0 k 45 (a0, ())

noncomputable def F21 (k : Nat) (a0 : List (Int)) : Option ((((List (Int)) × ((Bool) × (Unit))) × (Unit)) × (Unit)) := fnE E0 k 21 (a0, ())

noncomputable def F23 (k : Nat) (a0 : (List (Int)) × ((Bool) × (Unit))) : Option (((Bool) × (Unit)) × (Unit)) := fnE E0 k 23 (a0, ())

noncomputable def F24 (k : Nat) (a0 : (List (Int)) × ((Bool) × (Unit))) : Option (((Int) × (Unit)) × (Unit)) := fnE E0 k 24 (a0, ())

noncomputable def F37 (k : Nat) (a0 : (List (Int)) × ((Bool) × (Unit))) : Option (((Bool) × (Unit)) × (Unit)) := fnE E0 k 37 (a0, ())

noncomputable def L20_0 (k : Nat) (s0 : List (Int)) (s1 : List (Int)) : Nat → (Bool) × ((Int) × (Unit)) → Option (LO ((Bool) × (Unit)) ((Bool) × ((Int) × (Unit))) (Unit)) :=
  loopF true 0 26 cut20_0 (s0, s1, ()) (fun σ K => ev E0 (fnE E0 k) 20 (rvOf 20) k (codeOf 20 0) _ σ K)

theorem L20_0_step (k m : Nat) (s0 : List (Int)) (s1 : List (Int)) (x0 : Bool) (x1 : Int) : L20_0 k s0 s1 (m + 1) (x0, x1, ()) =
  (br (decide (x1 < (((List.length s0) : Nat) : Int)))
   (br (inB x1 (List.length s0))
    (br (inB x1 (List.length s1))
     (br ((List.getD s0 (Int.toNat x1) (0 : Int)) != (List.getD s1 (Int.toNat x1) (0 : Int)))
      (some (.ret (false, ()) ()))
      (L20_0 k s0 s1 m (x0, ((IntKind.wrap (IntKind.i64) (x1 + (1 : Int))), ()))))
     none)
    none)
   (some (.brk (x0, (x1, ()))))) := by kernel_rfl

theorem F20_step (k : Nat) (a0 : List (Int)) (a1 : List (Int)) : F20 (k + 1) a0 a1 =
  (br ((((List.length a0) : Nat) : Int) != (((List.length a1) : Nat) : Int))
   (some ((false, ()), ()))
   (bdL (L20_0 k a0 a1 k (false, ((0 : Int), ())))
    (fun (b : (Bool) × ((Int) × (Unit))) => (some ((true, ()), ())))
    (fun (j : Nat) => (fun (b : (Bool) × ((Int) × (Unit))) => none))
    (fun (q : (Bool) × (Unit)) => (fun (b : Unit) => (some (q, ())))))) := by kernel_rfl

theorem F25_step (k : Nat) (a0 : List (Int)) : F25 (k + 1) a0 =
  (br (decide ((((0 : Nat) + (List.length a0)) * (1 : Nat)) ≤ (140737488355328 : Nat)))
   (some (((([] : List (Int)) ++ a0), ()), ()))
   none) := by kernel_rfl

theorem F47_step (k : Nat) (a0 : Int) : F47 (k + 1) a0 =
  (bd (F55 k (IntKind.wrap (IntKind.u64) a0)) (fun (r : ((Int) × (Unit)) × (Unit)) => (some (((if ((IntKind.wrap (IntKind.i64) (Int.tdiv (IntKind.wrap (IntKind.i64) ((IntKind.wrap (IntKind.i64) (r.1.1 + (7 : Int))) - (1 : Int))) (7 : Int))) > (1 : Int)) then (IntKind.wrap (IntKind.i64) (Int.tdiv (IntKind.wrap (IntKind.i64) ((IntKind.wrap (IntKind.i64) (r.1.1 + (7 : Int))) - (1 : Int))) (7 : Int))) else (1 : Int)), ()), ())))) := by kernel_rfl

theorem F48_step (k : Nat) (a0 : (List (Int)) × ((Bool) × (Unit))) : F48 (k + 1) a0 =
  (some ((), (((([] : List (Int)), a0.2).1, (true, (([] : List (Int)), a0.2).2.2)), ()))) := by kernel_rfl

theorem F49_step (k : Nat) (a0 : Int) : F49 (k + 1) a0 =
  (bd (F56 k a0) (fun (r : ((Int) × (Unit)) × (Unit)) => (some (((IntKind.wrap (IntKind.i64) ((8 : Int) - r.1.1)), ()), ())))) := by kernel_rfl

theorem F50_step (k : Nat) (a0 : (List (Int)) × ((Bool) × (Unit))) (a1 : Int) : F50 (k + 1) a0 a1 =
  (br (cond a0.2.1 true (decide (a1 < (0 : Int))))
   (bd (F48 k a0) (fun (r : (Unit) × (((List (Int)) × ((Bool) × (Unit))) × (Unit))) => (some ((([] : List (Int)), (false, ())), (r.2.1, ())))))
   (br (cond false true (decide (a1 > (((List.length a0.1) : Nat) : Int))))
    (bd (F48 k a0) (fun (r : (Unit) × (((List (Int)) × ((Bool) × (Unit))) × (Unit))) => (some ((([] : List (Int)), (false, ())), (r.2.1, ())))))
    (br (((leB a1 (List.length a0.1)) && (leB a1 (Int.toNat a1))) && true)
     (br (true && (leB a1 (List.length a0.1)))
      (some (((List.take (Int.toNat a1) a0.1), (true, ())), (((List.drop (Int.toNat a1) a0.1), a0.2), ())))
      none)
     none))) := by kernel_rfl

theorem F53_step (k : Nat) (a0 : (List (Int)) × ((Bool) × (Unit))) : F53 (k + 1) a0 =
  (some ((), ((([] : List (Int)), (true, a0.2.2)), ()))) := by kernel_rfl

theorem F55_step (k : Nat) (a0 : Int) : F55 (k + 1) a0 =
  (bd (F58 k a0) (fun (r : ((Int) × (Unit)) × (Unit)) => (some ((r.1.1, ()), ())))) := by kernel_rfl

theorem F56_step (k : Nat) (a0 : Int) : F56 (k + 1) a0 =
  (br (inB a0 (256 : Nat))
   (some (((IntKind.wrap (IntKind.i64) (((UInt8.toNat (List.getD tab0 (Int.toNat a0) (0 : UInt8))) : Nat) : Int)), ()), ()))
   none) := by kernel_rfl

theorem F57_step (k : Nat) (a0 : Int) : F57 (k + 1) a0 =
  (br (decide (a0 ≥ (65536 : Int)))
   (br (decide ((Int.fdiv a0 (65536 : Int)) ≥ (256 : Int)))
    (br (inB (IntKind.wrap (IntKind.u8) (Int.fdiv (Int.fdiv a0 (65536 : Int)) (256 : Int))) (256 : Nat))
     (some (((IntKind.wrap (IntKind.i64) ((24 : Int) + (IntKind.wrap (IntKind.i64) (((UInt8.toNat (List.getD tab0 (Int.toNat (IntKind.wrap (IntKind.u8) (Int.fdiv (Int.fdiv a0 (65536 : Int)) (256 : Int)))) (0 : UInt8))) : Nat) : Int)))), ()), ()))
     none)
    (br (inB (IntKind.wrap (IntKind.u8) (Int.fdiv a0 (65536 : Int))) (256 : Nat))
     (some (((IntKind.wrap (IntKind.i64) ((16 : Int) + (IntKind.wrap (IntKind.i64) (((UInt8.toNat (List.getD tab0 (Int.toNat (IntKind.wrap (IntKind.u8) (Int.fdiv a0 (65536 : Int)))) (0 : UInt8))) : Nat) : Int)))), ()), ()))
     none))
   (br (decide (a0 ≥ (256 : Int)))
    (br (inB (IntKind.wrap (IntKind.u8) (Int.fdiv a0 (256 : Int))) (256 : Nat))
     (some (((IntKind.wrap (IntKind.i64) ((8 : Int) + (IntKind.wrap (IntKind.i64) (((UInt8.toNat (List.getD tab0 (Int.toNat (IntKind.wrap (IntKind.u8) (Int.fdiv a0 (256 : Int)))) (0 : UInt8))) : Nat) : Int)))), ()), ()))
     none)
    (br (inB (IntKind.wrap (IntKind.u8) a0) (256 : Nat))
     (some (((IntKind.wrap (IntKind.i64) ((0 : Int) + (IntKind.wrap (IntKind.i64) (((UInt8.toNat (List.getD tab0 (Int.toNat (IntKind.wrap (IntKind.u8) a0)) (0 : UInt8))) : Nat) : Int)))), ()), ()))
     none))) := by kernel_rfl

theorem F58_step (k : Nat) (a0 : Int) : F58 (k + 1) a0 =
  (br (decide (a0 ≥ (4294967296 : Int)))
   (br (decide ((Int.fdiv a0 (4294967296 : Int)) ≥ (65536 : Int)))
    (br (decide ((Int.fdiv (Int.fdiv a0 (4294967296 : Int)) (65536 : Int)) ≥ (256 : Int)))
     (br (inB (IntKind.wrap (IntKind.u8) (Int.fdiv (Int.fdiv (Int.fdiv a0 (4294967296 : Int)) (65536 : Int)) (256 : Int))) (256 : Nat))
      (some (((IntKind.wrap (IntKind.i64) ((56 : Int) + (IntKind.wrap (IntKind.i64) (((UInt8.toNat (List.getD tab0 (Int.toNat (IntKind.wrap (IntKind.u8) (Int.fdiv (Int.fdiv (Int.fdiv a0 (4294967296 : Int)) (65536 : Int)) (256 : Int)))) (0 : UInt8))) : Nat) : Int)))), ()), ()))
      none)
     (br (inB (IntKind.wrap (IntKind.u8) (Int.fdiv (Int.fdiv a0 (4294967296 : Int)) (65536 : Int))) (256 : Nat))
      (some (((IntKind.wrap (IntKind.i64) ((48 : Int) + (IntKind.wrap (IntKind.i64) (((UInt8.toNat (List.getD tab0 (Int.toNat (IntKind.wrap (IntKind.u8) (Int.fdiv (Int.fdiv a0 (4294967296 : Int)) (65536 : Int)))) (0 : UInt8))) : Nat) : Int)))), ()), ()))
      none))
    (br (decide ((Int.fdiv a0 (4294967296 : Int)) ≥ (256 : Int)))
     (br (inB (IntKind.wrap (IntKind.u8) (Int.fdiv (Int.fdiv a0 (4294967296 : Int)) (256 : Int))) (256 : Nat))
      (some (((IntKind.wrap (IntKind.i64) ((40 : Int) + (IntKind.wrap (IntKind.i64) (((UInt8.toNat (List.getD tab0 (Int.toNat (IntKind.wrap (IntKind.u8) (Int.fdiv (Int.fdiv a0 (4294967296 : Int)) (256 : Int)))) (0 : UInt8))) : Nat) : Int)))), ()), ()))
      none)
     (br (inB (IntKind.wrap (IntKind.u8) (Int.fdiv a0 (4294967296 : Int))) (256 : Nat))
      (some (((IntKind.wrap (IntKind.i64) ((32 : Int) + (IntKind.wrap (IntKind.i64) (((UInt8.toNat (List.getD tab0 (Int.toNat (IntKind.wrap (IntKind.u8) (Int.fdiv a0 (4294967296 : Int)))) (0 : UInt8))) : Nat) : Int)))), ()), ()))
      none)))
   (br (decide (a0 ≥ (65536 : Int)))
    (br (decide ((Int.fdiv a0 (65536 : Int)) ≥ (256 : Int)))
     (br (inB (IntKind.wrap (IntKind.u8) (Int.fdiv (Int.fdiv a0 (65536 : Int)) (256 : Int))) (256 : Nat))
      (some (((IntKind.wrap (IntKind.i64) ((24 : Int) + (IntKind.wrap (IntKind.i64) (((UInt8.toNat (List.getD tab0 (Int.toNat (IntKind.wrap (IntKind.u8) (Int.fdiv (Int.fdiv a0 (65536 : Int)) (256 : Int)))) (0 : UInt8))) : Nat) : Int)))), ()), ()))
      none)
     (br (inB (IntKind.wrap (IntKind.u8) (Int.fdiv a0 (65536 : Int))) (256 : Nat))
      (some (((IntKind.wrap (IntKind.i64) ((16 : Int) + (IntKind.wrap (IntKind.i64) (((UInt8.toNat (List.getD tab0 (Int.toNat (IntKind.wrap (IntKind.u8) (Int.fdiv a0 (65536 : Int)))) (0 : UInt8))) : Nat) : Int)))), ()), ()))
      none))
    (br (decide (a0 ≥ (256 : Int)))
     (br (inB (IntKind.wrap (IntKind.u8) (Int.fdiv a0 (256 : Int))) (256 : Nat))
      (some (((IntKind.wrap (IntKind.i64) ((8 : Int) + (IntKind.wrap (IntKind.i64) (((UInt8.toNat (List.getD tab0 (Int.toNat (IntKind.wrap (IntKind.u8) (Int.fdiv a0 (256 : Int)))) (0 : UInt8))) : Nat) : Int)))), ()), ()))
      none)
     (br (inB (IntKind.wrap (IntKind.u8) a0) (256 : Nat))
      (some (((IntKind.wrap (IntKind.i64) ((0 : Int) + (IntKind.wrap (IntKind.i64) (((UInt8.toNat (List.getD tab0 (Int.toNat (IntKind.wrap (IntKind.u8) a0)) (0 : UInt8))) : Nat) : Int)))), ()), ()))
      none)))) := by kernel_rfl

theorem F45_step (k : Nat) (a0 : List (Int)) : F45 (k + 1) a0 =
  (bthN (List.length a0)
   (some ((([] : List (Int)), ()), ()))
   (br (decide ((((0 : Nat) + (List.length a0)) * (1 : Nat)) ≤ (140737488355328 : Nat)))
    (some (((([] : List (Int)) ++ a0), ()), ()))
    none)) := by kernel_rfl

theorem F21_step (k : Nat) (a0 : List (Int)) : F21 (k + 1) a0 =
  (bd (F45 k a0) (fun (r : ((List (Int)) × (Unit)) × (Unit)) => (some (((r.1.1, (false, ())), ()), ())))) := by kernel_rfl

theorem F23_step (k : Nat) (a0 : (List (Int)) × ((Bool) × (Unit))) : F23 (k + 1) a0 =
  (some ((a0.2.1, ()), ())) := by kernel_rfl

theorem F24_step (k : Nat) (a0 : (List (Int)) × ((Bool) × (Unit))) : F24 (k + 1) a0 =
  (some (((((List.length a0.1) : Nat) : Int), ()), ())) := by kernel_rfl

theorem F37_step (k : Nat) (a0 : (List (Int)) × ((Bool) × (Unit))) : F37 (k + 1) a0 =
  (br (!a0.2.1)
   (some (((cond true ((((List.length a0.1) : Nat) : Int) == (0 : Int)) false), ()), ()))
   (some ((false, ()), ()))) := by kernel_rfl

end Go.Proofs.Ytnffdeokhcojfaa.E

namespace Go.Proofs.Ytnffdeokhcojfaa.E
open Go
set_option linter.unusedVariables false
set_option maxRecDepth 100000

noncomputable def F19 (k : Nat) (a0 : Int) : Option (((List (Int)) × ((Bool) × (Unit))) × (Unit)) := fnE E0 k 19 (a0, ())

noncomputable def F22 (k : Nat) (a0 : (List (Int)) × ((Bool) × (Unit))) (a1 : Int) : Option (((Int) × (Unit)) × (((List (Int)) × ((Bool) × (Unit))) × (Unit))) := fnE E0 k 22 (a0, a1, ())

noncomputable def F33 (k : Nat) (a0 : Int) : Option (((List (Int)) × ((Bool) × (Unit))) × (Unit)) := fnE E0 k 33 (a0, ())

noncomputable def F34 (k : Nat) (a0 : List (UInt8)) : Option (((List (Int)) × (Unit)) × (Unit)) := fnE E0 k 34 (a0, ())

noncomputable def F35 (k : Nat) (a0 : List (UInt8)) : Option (((List (Int)) × (Unit)) × (Unit)) := fnE E0 k 35 (a0, ())

noncomputable def F36 (k : Nat) (a0 : (List (Int)) × ((Bool) × (Unit))) (a1 : Int) : Option (((List (UInt8)) × (Unit)) × (((List (Int)) × ((Bool) × (Unit))) × (Unit))) := fnE E0 k 36 (a0, a1, ())

noncomputable def F38 (k : Nat) (a0 : (List (Int)) × ((Bool) × (Unit))) (a1 : Int) : Option (((Int) × (Unit)) × (((List (Int)) × ((Bool) × (Unit))) × (Unit))) := fnE E0 k 38 (a0, a1, ())

noncomputable def F39 (k : Nat) (a0 : (List (Int)) × ((Bool) × (Unit))) (a1 : Int) : Option (((List (UInt8)) × (Unit)) × (((List (Int)) × ((Bool) × (Unit))) × (Unit))) := fnE E0 k 39 (a0, a1, ())

noncomputable def F40 (k : Nat) (a0 : (List (Int)) × ((Bool) × (Unit))) (a1 : Int) : Option (((List (Int)) × (Unit)) × (((List (Int)) × ((Bool) × (Unit))) × (Unit))) := fnE E0 k 40 (a0, a1, ())

noncomputable def F41 (k : Nat) (a0 : (List (Int)) × ((Bool) × (Unit))) (a1 : Int) : Option (((List (Int)) × (Unit)) × (((List (Int)) × ((Bool) × (Unit))) × (Unit))) := fnE E0 k 41 (a0, a1, ())

noncomputable def F18 (k : Nat)  : Option (((Bool) × (Unit)) × (Unit)) := fnE E0 k 18 ()

noncomputable def L19_0 (k : Nat) (s0 : Int) (s1 : Int) (s2 : Unit) (s3 : Int) : Nat → (List (Int)) × ((Int) × (Unit)) → Option (LO ((List (Int)) × ((Bool) × (Unit))) ((List (Int)) × ((Int) × (Unit))) (Unit)) :=
  loopF true 0 44 cut19_0 (s0, s1, s2, s3, ()) (fun σ K => ev E0 (fnE E0 k) 19 (rvOf 19) k (codeOf 19 0) _ σ K)

theorem L19_0_step (k m : Nat) (s0 : Int) (s1 : Int) (s2 : Unit) (s3 : Int) (x0 : List (Int)) (x1 : Int) : L19_0 k s0 s1 s2 s3 (m + 1) (x0, x1, ()) =
  (br (decide (x1 < s3))
   (br (decide ((0 : Int) ≤ (IntKind.wrap (IntKind.i64) ((8 : Int) * x1))))
    (br (inB (IntKind.wrap (IntKind.i64) ((IntKind.wrap (IntKind.i64) (s1 - (1 : Int))) - x1)) (List.length x0))
     (L19_0 k s0 s1 s2 s3 m ((List.set x0 (Int.toNat (IntKind.wrap (IntKind.i64) ((IntKind.wrap (IntKind.i64) (s1 - (1 : Int))) - x1))) (IntKind.wrap (IntKind.u8) (Int.fdiv s0 ((2 : Int) ^ (Min.min (Int.toNat (IntKind.wrap (IntKind.i64) ((8 : Int) * x1))) (64 : Nat)))))), ((IntKind.wrap (IntKind.i64) (x1 + (1 : Int))), ())))
     none)
    none)
   (some (.brk (x0, (x1, ()))))) := by kernel_rfl

theorem F19_step (k : Nat) (a0 : Int) : F19 (k + 1) a0 =
  (br (cond (decide (a0 < (0 : Int))) true (decide (a0 > (562949953421311 : Int))))
   (some ((([] : List (Int)), (false, ())), ()))
   (bd (F47 k a0) (fun (r : ((Int) × (Unit)) × (Unit)) => (br (makeB r.1.1 r.1.1 (1 : Nat))
     (bdL (L19_0 k a0 r.1.1 () (((List.length (List.replicate (Int.toNat r.1.1) (0 : Int))) : Nat) : Int) k ((List.replicate (Int.toNat r.1.1) (0 : Int)), ((0 : Int), ())))
      (fun (b : (List (Int)) × ((Int) × (Unit))) => (br (inB (0 : Int) (List.length b.1))
       (br (decide ((0 : Int) ≤ (IntKind.wrap (IntKind.i64) (r.1.1 - (1 : Int)))))
        (br (inB (0 : Int) (List.length b.1))
         (some (((List.set b.1 (0 : Nat) (IntKind.wrap (IntKind.u8) (((BitVec.toNat ((BitVec.ofInt (8 : Nat) (List.getD b.1 (0 : Nat) (0 : Int))) ||| (BitVec.ofInt (8 : Nat) (IntKind.wrap (IntKind.u8) (((BitVec.toNat ((BitVec.ofInt (8 : Nat) (255 : Int)) ^^^ (BitVec.ofInt (8 : Nat) (Int.fdiv (255 : Int) ((2 : Int) ^ (Min.min (Int.toNat (IntKind.wrap (IntKind.i64) (r.1.1 - (1 : Int)))) (8 : Nat))))))) : Nat) : Int))))) : Nat) : Int))), (true, ())), ()))
         none)
        none)
       none))
      (fun (j : Nat) => (fun (b : (List (Int)) × ((Int) × (Unit))) => none))
      (fun (q : (List (Int)) × ((Bool) × (Unit))) => (fun (b : Unit) => (some (q, ())))))
     none)))) := by kernel_rfl

noncomputable def L22_0 (k : Nat) (s0 : List (Int)) (s1 : Int) : Nat → (Int) × ((Int) × (Unit)) → Option (LO ((Int) × (Unit)) ((Int) × ((Int) × (Unit))) (Unit)) :=
  loopF true 0 72 cut22_0 (s0, s1, ()) (fun σ K => ev E0 (fnE E0 k) 22 (rvOf 22) k (codeOf 22 0) _ σ K)

theorem L22_0_step (k m : Nat) (s0 : List (Int)) (s1 : Int) (x0 : Int) (x1 : Int) : L22_0 k s0 s1 (m + 1) (x0, x1, ()) =
  (br (decide (x1 < s1))
   (br (inB x1 (List.length s0))
    (L22_0 k s0 s1 m ((IntKind.wrap (IntKind.i64) (((BitVec.toNat ((BitVec.ofInt (64 : Nat) (IntKind.wrap (IntKind.i64) (x0 * (256 : Int)))) ||| (BitVec.ofInt (64 : Nat) (IntKind.wrap (IntKind.i64) (List.getD s0 (Int.toNat x1) (0 : Int)))))) : Nat) : Int)), ((IntKind.wrap (IntKind.i64) (x1 + (1 : Int))), ())))
    none)
   (some (.brk (x0, (x1, ()))))) := by kernel_rfl

theorem F22_step (k : Nat) (a0 : (List (Int)) × ((Bool) × (Unit))) (a1 : Int) : F22 (k + 1) a0 a1 =
  (br ((((List.length a0.1) : Nat) : Int) == (0 : Int))
   (bd (F48 k a0) (fun (r : (Unit) × (((List (Int)) × ((Bool) × (Unit))) × (Unit))) => (some (((0 : Int), ()), (r.2.1, ())))))
   (br (inB (0 : Int) (List.length a0.1))
    (bd (F49 k (IntKind.wrap (IntKind.u8) (((BitVec.toNat ((BitVec.ofInt (8 : Nat) (255 : Int)) ^^^ (BitVec.ofInt (8 : Nat) (List.getD a0.1 (0 : Nat) (0 : Int))))) : Nat) : Int))) (fun (r : ((Int) × (Unit)) × (Unit)) => (br (decide ((IntKind.wrap (IntKind.i64) ((1 : Int) + r.1.1)) > (7 : Int)))
      (bd (F48 k a0) (fun (r1 : (Unit) × (((List (Int)) × ((Bool) × (Unit))) × (Unit))) => (some (((0 : Int), ()), (r1.2.1, ())))))
      (bd (F50 k a0 (IntKind.wrap (IntKind.i64) ((1 : Int) + r.1.1))) (fun (r1 : ((List (Int)) × ((Bool) × (Unit))) × (((List (Int)) × ((Bool) × (Unit))) × (Unit))) => (br (!r1.1.2.1)
        (some (((0 : Int), ()), (r1.2.1, ())))
        (br (inB (0 : Int) (List.length r1.1.1))
         (br (decide ((0 : Int) ≤ (IntKind.wrap (IntKind.i64) ((1 : Int) + r.1.1))))
          (br (true && (leB (1 : Int) (List.length r1.1.1)))
           (bdL (L22_0 k (List.drop (1 : Nat) r1.1.1) (((List.length (List.drop (1 : Nat) r1.1.1)) : Nat) : Int) k ((IntKind.wrap (IntKind.i64) (IntKind.wrap (IntKind.u8) (((BitVec.toNat ((BitVec.ofInt (8 : Nat) (List.getD r1.1.1 (0 : Nat) (0 : Int))) &&& (BitVec.ofInt (8 : Nat) (Int.fdiv (255 : Int) ((2 : Int) ^ (Min.min (Int.toNat (IntKind.wrap (IntKind.i64) ((1 : Int) + r.1.1))) (8 : Nat))))))) : Nat) : Int))), ((0 : Int), ())))
            (fun (b : (Int) × ((Int) × (Unit))) => (bd (F47 k b.1) (fun (r2 : ((Int) × (Unit)) × (Unit)) => (br (cond (r2.1.1 != (IntKind.wrap (IntKind.i64) ((1 : Int) + r.1.1))) true (decide (b.1 > a1)))
              (bd (F48 k r1.2.1) (fun (r3 : (Unit) × (((List (Int)) × ((Bool) × (Unit))) × (Unit))) => (some (((0 : Int), ()), (r3.2.1, ())))))
              (some ((b.1, ()), (r1.2.1, ())))))))
            (fun (j : Nat) => (fun (b : (Int) × ((Int) × (Unit))) => none))
            (fun (q : (Int) × (Unit)) => (fun (b : Unit) => (some (q, (r1.2.1, ()))))))
           none)
          none)
         none)))))))
    none)) := by kernel_rfl

noncomputable def L33_0 (k : Nat) (s0 : Int) : Nat → (Int) × ((Int) × (Unit)) → Option (LO ((List (Int)) × ((Bool) × (Unit))) ((Int) × ((Int) × (Unit))) (Unit)) :=
  loopF true 0 58 cut33_0 (s0, ()) (fun σ K => ev E0 (fnE E0 k) 33 (rvOf 33) k (codeOf 33 0) _ σ K)

noncomputable def L33_2 (k : Nat) (s0 : Unit) : Nat → (Int) × ((List (Int)) × ((Int) × (Unit))) → Option (LO ((List (Int)) × ((Bool) × (Unit))) ((Int) × ((List (Int)) × ((Int) × (Unit)))) (Unit)) :=
  loopF true 2 58 cut33_2 (s0, ()) (fun σ K => ev E0 (fnE E0 k) 33 (rvOf 33) k (codeOf 33 2) _ σ K)

noncomputable def L33_4 (k : Nat) (s0 : Int) : Nat → (Int) × ((Int) × (Unit)) → Option (LO ((List (Int)) × ((Bool) × (Unit))) ((Int) × ((Int) × (Unit))) (Unit)) :=
  loopF true 4 58 cut33_4 (s0, ()) (fun σ K => ev E0 (fnE E0 k) 33 (rvOf 33) k (codeOf 33 4) _ σ K)

theorem L33_0_step (k m : Nat) (s0 : Int) (x0 : Int) (x1 : Int) : L33_0 k s0 (m + 1) (x0, x1, ()) =
  (br (decide (s0 ≥ x1))
   (L33_0 k s0 m ((IntKind.wrap (IntKind.i64) (x0 + (1 : Int))), ((IntKind.wrap (IntKind.i64) (x1 * (128 : Int))), ())))
   (some (.brk (x0, (x1, ()))))) := by kernel_rfl

theorem L33_2_step (k m : Nat) (s0 : Unit) (x0 : Int) (x1 : List (Int)) (x2 : Int) : L33_2 k s0 (m + 1) (x0, x1, x2, ()) =
  (br (decide (x2 ≥ (0 : Int)))
   (br (inB x2 (List.length x1))
    (L33_2 k s0 m ((IntKind.wrap (IntKind.i64) (Int.tdiv x0 (256 : Int))), ((List.set x1 (Int.toNat x2) (IntKind.wrap (IntKind.u8) (Int.tmod x0 (256 : Int)))), ((IntKind.wrap (IntKind.i64) (x2 - (1 : Int))), ()))))
    none)
   (some (.brk (x0, (x1, (x2, ())))))) := by kernel_rfl

theorem L33_4_step (k m : Nat) (s0 : Int) (x0 : Int) (x1 : Int) : L33_4 k s0 (m + 1) (x0, x1, ()) =
  (br (decide (x1 < (IntKind.wrap (IntKind.i64) (s0 - (1 : Int)))))
   (br (decide ((0 : Int) ≤ (IntKind.wrap (IntKind.u64) x1)))
    (L33_4 k s0 m ((IntKind.wrap (IntKind.i64) (x0 + (Int.fdiv (128 : Int) ((2 : Int) ^ (Min.min (Int.toNat (IntKind.wrap (IntKind.u64) x1)) (64 : Nat)))))), ((IntKind.wrap (IntKind.i64) (x1 + (1 : Int))), ())))
    none)
   (some (.brk (x0, (x1, ()))))) := by kernel_rfl

theorem F33_step (k : Nat) (a0 : Int) : F33 (k + 1) a0 =
  (br (cond (decide (a0 < (0 : Int))) true (decide (a0 > (562949953421311 : Int))))
   (some ((([] : List (Int)), (false, ())), ()))
   (bdL (L33_0 k a0 k ((1 : Int), ((128 : Int), ())))
    (fun (b : (Int) × ((Int) × (Unit))) => (br (makeB b.1 b.1 (1 : Nat))
     (bdL (L33_2 k () k (a0, ((List.replicate (Int.toNat b.1) (0 : Int)), ((IntKind.wrap (IntKind.i64) (b.1 - (1 : Int))), ()))))
      (fun (b1 : (Int) × ((List (Int)) × ((Int) × (Unit)))) => (bdL (L33_4 k b.1 k ((0 : Int), ((0 : Int), ())))
       (fun (b2 : (Int) × ((Int) × (Unit))) => (br (inB (0 : Int) (List.length b1.2.1))
        (br (inB (0 : Int) (List.length b1.2.1))
         (some (((List.set b1.2.1 (0 : Nat) (IntKind.wrap (IntKind.u8) ((List.getD b1.2.1 (0 : Nat) (0 : Int)) + (IntKind.wrap (IntKind.u8) b2.1)))), (true, ())), ()))
         none)
        none))
       (fun (j : Nat) => (fun (b2 : (Int) × ((Int) × (Unit))) => none))
       (fun (q : (List (Int)) × ((Bool) × (Unit))) => (fun (b2 : Unit) => (some (q, ()))))))
      (fun (j : Nat) => (fun (b1 : (Int) × ((List (Int)) × ((Int) × (Unit)))) => none))
      (fun (q : (List (Int)) × ((Bool) × (Unit))) => (fun (b1 : Unit) => (some (q, ())))))
     none))
    (fun (j : Nat) => (fun (b : (Int) × ((Int) × (Unit))) => none))
    (fun (q : (List (Int)) × ((Bool) × (Unit))) => (fun (b : Unit) => (some (q, ())))))) := by kernel_rfl

theorem F34_step (k : Nat) (a0 : List (UInt8)) : F34 (k + 1) a0 =
  (bd (F19 k (((List.length a0) : Nat) : Int)) (fun (r : ((List (Int)) × ((Bool) × (Unit))) × (Unit)) => (br (decide ((((List.length r.1.1) + (List.length (List.map (fun (c : UInt8) => (((UInt8.toNat c) : Nat) : Int)) a0))) * (1 : Nat)) ≤ (140737488355328 : Nat)))
    (some (((r.1.1 ++ (List.map (fun (c : UInt8) => (((UInt8.toNat c) : Nat) : Int)) a0)), ()), ()))
    none))) := by kernel_rfl

noncomputable def L35_0 (k : Nat) (s0 : List (UInt8)) : Nat → (List (Int)) × ((Int) × (Unit)) → Option (LO ((List (Int)) × (Unit)) ((List (Int)) × ((Int) × (Unit))) (Unit)) :=
  loopF true 0 25 cut35_0 (s0, ()) (fun σ K => ev E0 (fnE E0 k) 35 (rvOf 35) k (codeOf 35 0) _ σ K)

theorem L35_0_step (k m : Nat) (s0 : List (UInt8)) (x0 : List (Int)) (x1 : Int) : L35_0 k s0 (m + 1) (x0, x1, ()) =
  (br (decide (x1 < (((List.length s0) : Nat) : Int)))
   (br (inB x1 (List.length s0))
    (br (decide ((((List.length x0) + (List.length ((((UInt8.toNat (List.getD s0 (Int.toNat x1) (0 : UInt8))) : Nat) : Int) :: ([] : List (Int))))) * (1 : Nat)) ≤ (140737488355328 : Nat)))
     (L35_0 k s0 m ((x0 ++ ((((UInt8.toNat (List.getD s0 (Int.toNat x1) (0 : UInt8))) : Nat) : Int) :: ([] : List (Int)))), ((IntKind.wrap (IntKind.i64) (x1 + (1 : Int))), ())))
     none)
    none)
   (some (.brk (x0, (x1, ()))))) := by kernel_rfl

theorem F35_step (k : Nat) (a0 : List (UInt8)) : F35 (k + 1) a0 =
  (bd (F33 k (((List.length a0) : Nat) : Int)) (fun (r : ((List (Int)) × ((Bool) × (Unit))) × (Unit)) => (bdL (L35_0 k a0 k (r.1.1, ((0 : Int), ())))
    (fun (b : (List (Int)) × ((Int) × (Unit))) => (some ((b.1, ()), ())))
    (fun (j : Nat) => (fun (b : (List (Int)) × ((Int) × (Unit))) => none))
    (fun (q : (List (Int)) × (Unit)) => (fun (b : Unit) => (some (q, ()))))))) := by kernel_rfl

theorem F36_step (k : Nat) (a0 : (List (Int)) × ((Bool) × (Unit))) (a1 : Int) : F36 (k + 1) a0 a1 =
  (bd (F22 k a0 a1) (fun (r : ((Int) × (Unit)) × (((List (Int)) × ((Bool) × (Unit))) × (Unit))) => (bd (F50 k r.2.1 r.1.1) (fun (r1 : ((List (Int)) × ((Bool) × (Unit))) × (((List (Int)) × ((Bool) × (Unit))) × (Unit))) => (some (((List.map (fun (n : Int) => (UInt8.ofNat (Int.toNat n))) r1.1.1), ()), (r1.2.1, ()))))))) := by kernel_rfl

noncomputable def L38_0 (k : Nat)  : Nat → (Int) × ((Int) × ((Int) × (Unit))) → Option (LO ((Int) × (Unit)) ((Int) × ((Int) × ((Int) × (Unit)))) (Unit)) :=
  loopF true 0 103 cut38_0 () (fun σ K => ev E0 (fnE E0 k) 38 (rvOf 38) k (codeOf 38 0) _ σ K)

noncomputable def L38_2 (k : Nat) (s0 : Unit) (s1 : Int) : Nat → ((List (Int)) × ((Bool) × (Unit))) × ((Int) × ((Int) × (Unit))) → Option (LO ((Int) × (Unit)) (((List (Int)) × ((Bool) × (Unit))) × ((Int) × ((Int) × (Unit)))) (((List (Int)) × ((Bool) × (Unit))) × (Unit))) :=
  loopF true 2 103 cut38_2 (s0, s1, ()) (fun σ K => ev E0 (fnE E0 k) 38 (rvOf 38) k (codeOf 38 2) _ σ K)

theorem L38_0_step (k m : Nat)  (x0 : Int) (x1 : Int) (x2 : Int) : L38_0 k  (m + 1) (x0, x1, x2, ()) =
  (br (cond (decide (x0 < (8 : Int))) (decide (x1 ≥ x2)) false)
   (L38_0 k  m ((IntKind.wrap (IntKind.i64) (x0 + (1 : Int))), ((IntKind.wrap (IntKind.i64) (x1 - x2)), ((IntKind.wrap (IntKind.i64) (Int.tdiv x2 (2 : Int))), ()))))
   (some (.brk (x0, (x1, (x2, ())))))) := by kernel_rfl

theorem L38_2_step (k m : Nat) (s0 : Unit) (s1 : Int) (x0 : (List (Int)) × ((Bool) × (Unit))) (x1 : Int) (x2 : Int) : L38_2 k s0 s1 (m + 1) (x0, x1, x2, ()) =
  (br (decide (x2 < s1))
   (br (inB x2 (List.length x0.1))
    (L38_2 k s0 s1 m (x0, ((IntKind.wrap (IntKind.i64) ((IntKind.wrap (IntKind.i64) (x1 * (256 : Int))) + (IntKind.wrap (IntKind.i64) (List.getD x0.1 (Int.toNat x2) (0 : Int))))), ((IntKind.wrap (IntKind.i64) (x2 + (1 : Int))), ()))))
    none)
   (some (.brk (x0, (x1, (x2, ())))))) := by kernel_rfl

theorem F38_step (k : Nat) (a0 : (List (Int)) × ((Bool) × (Unit))) (a1 : Int) : F38 (k + 1) a0 a1 =
  (br a0.2.1
   (bd (F53 k a0) (fun (r : (Unit) × (((List (Int)) × ((Bool) × (Unit))) × (Unit))) => (some (((0 : Int), ()), (r.2.1, ())))))
   (br (cond false true ((((List.length a0.1) : Nat) : Int) == (0 : Int)))
    (bd (F53 k a0) (fun (r : (Unit) × (((List (Int)) × ((Bool) × (Unit))) × (Unit))) => (some (((0 : Int), ()), (r.2.1, ())))))
    (br (inB (0 : Int) (List.length a0.1))
     (bdL (L38_0 k  k ((1 : Int), ((IntKind.wrap (IntKind.i64) (List.getD a0.1 (0 : Nat) (0 : Int))), ((128 : Int), ()))))
      (fun (b : (Int) × ((Int) × ((Int) × (Unit)))) => (br (decide (b.1 > (7 : Int)))
       (bd (F53 k a0) (fun (r : (Unit) × (((List (Int)) × ((Bool) × (Unit))) × (Unit))) => (some (((0 : Int), ()), (r.2.1, ())))))
       (br (cond false true (decide (b.1 > (((List.length a0.1) : Nat) : Int))))
        (bd (F53 k a0) (fun (r : (Unit) × (((List (Int)) × ((Bool) × (Unit))) × (Unit))) => (some (((0 : Int), ()), (r.2.1, ())))))
        (bdL (L38_2 k () b.1 k (a0, (b.2.1, ((1 : Int), ()))))
         (fun (b1 : ((List (Int)) × ((Bool) × (Unit))) × ((Int) × ((Int) × (Unit)))) => (bd (F33 k b1.2.1) (fun (r : ((List (Int)) × ((Bool) × (Unit))) × (Unit)) => (br (cond ((((List.length r.1.1) : Nat) : Int) != b.1) true (decide (b1.2.1 > a1)))
           (bd (F53 k b1.1) (fun (r1 : (Unit) × (((List (Int)) × ((Bool) × (Unit))) × (Unit))) => (some (((0 : Int), ()), (r1.2.1, ())))))
           (br (true && (leB b.1 (List.length b1.1.1)))
            (some ((b1.2.1, ()), (((List.drop (Int.toNat b.1) b1.1.1), b1.1.2), ())))
            none)))))
         (fun (j : Nat) => (fun (b1 : ((List (Int)) × ((Bool) × (Unit))) × ((Int) × ((Int) × (Unit)))) => none))
         (fun (q : (Int) × (Unit)) => (fun (b1 : ((List (Int)) × ((Bool) × (Unit))) × (Unit)) => (some (q, (b1.1, ())))))))))
      (fun (j : Nat) => (fun (b : (Int) × ((Int) × ((Int) × (Unit)))) => none))
      (fun (q : (Int) × (Unit)) => (fun (b : Unit) => (some (q, (a0, ()))))))
     none))) := by kernel_rfl

theorem F39_step (k : Nat) (a0 : (List (Int)) × ((Bool) × (Unit))) (a1 : Int) : F39 (k + 1) a0 a1 =
  (bd (F38 k a0 a1) (fun (r : ((Int) × (Unit)) × (((List (Int)) × ((Bool) × (Unit))) × (Unit))) => (br r.2.1.2.1
    (bd (F53 k r.2.1) (fun (r1 : (Unit) × (((List (Int)) × ((Bool) × (Unit))) × (Unit))) => (some ((([] : List UInt8), ()), (r1.2.1, ())))))
    (br (cond false true (decide (r.1.1 > (((List.length r.2.1.1) : Nat) : Int))))
     (bd (F53 k r.2.1) (fun (r1 : (Unit) × (((List (Int)) × ((Bool) × (Unit))) × (Unit))) => (some ((([] : List UInt8), ()), (r1.2.1, ())))))
     (bd (F41 k r.2.1 r.1.1) (fun (r1 : ((List (Int)) × (Unit)) × (((List (Int)) × ((Bool) × (Unit))) × (Unit))) => (some (((List.map (fun (n : Int) => (UInt8.ofNat (Int.toNat n))) r1.1.1), ()), (r1.2.1, ()))))))))) := by kernel_rfl

theorem F40_step (k : Nat) (a0 : (List (Int)) × ((Bool) × (Unit))) (a1 : Int) : F40 (k + 1) a0 a1 =
  (bd (F50 k a0 a1) (fun (r : ((List (Int)) × ((Bool) × (Unit))) × (((List (Int)) × ((Bool) × (Unit))) × (Unit))) => (some ((r.1.1, ()), (r.2.1, ()))))) := by kernel_rfl

theorem F41_step (k : Nat) (a0 : (List (Int)) × ((Bool) × (Unit))) (a1 : Int) : F41 (k + 1) a0 a1 =
  (br (cond a0.2.1 true (decide (a1 < (0 : Int))))
   (bd (F53 k a0) (fun (r : (Unit) × (((List (Int)) × ((Bool) × (Unit))) × (Unit))) => (some ((([] : List (Int)), ()), (r.2.1, ())))))
   (br (cond false true (decide (a1 > (((List.length a0.1) : Nat) : Int))))
    (bd (F53 k a0) (fun (r : (Unit) × (((List (Int)) × ((Bool) × (Unit))) × (Unit))) => (some ((([] : List (Int)), ()), (r.2.1, ())))))
    (br ((true && (leB a1 (List.length a0.1))) && true)
     (br (decide ((((0 : Nat) + (List.length (List.take (Int.toNat a1) a0.1))) * (1 : Nat)) ≤ (140737488355328 : Nat)))
      (br (true && (leB a1 (List.length a0.1)))
       (some (((([] : List (Int)) ++ (List.take (Int.toNat a1) a0.1)), ()), (((List.drop (Int.toNat a1) a0.1), a0.2), ())))
       none)
      none)
     none))) := by kernel_rfl

theorem F18_step (k : Nat)  : F18 (k + 1)  =
  (bd (F19 k (128 : Int)) (fun (r : ((List (Int)) × ((Bool) × (Unit))) × (Unit)) => (bd (F19 k (16384 : Int)) (fun (r1 : ((List (Int)) × ((Bool) × (Unit))) × (Unit)) => (bd (F19 k (-1 : Int)) (fun (r2 : ((List (Int)) × ((Bool) × (Unit))) × (Unit)) => (bd (F21 k ((2 : Int) :: ((97 : Int) :: ((98 : Int) :: ((5 : Int) :: ([] : List (Int))))))) (fun (r3 : (((List (Int)) × ((Bool) × (Unit))) × (Unit)) × (Unit)) => (br (cond (cond r.1.2.1 r1.1.2.1 false) (!r2.1.2.1) false)
       (bd (F20 k r.1.1 ((128 : Int) :: ((128 : Int) :: ([] : List (Int))))) (fun (r4 : ((Bool) × (Unit)) × (Unit)) => (br (cond true r4.1.1 false)
         (bd (F20 k r1.1.1 ((192 : Int) :: ((64 : Int) :: ((0 : Int) :: ([] : List (Int)))))) (fun (r5 : ((Bool) × (Unit)) × (Unit)) => (br (cond (cond true r5.1.1 false) true false)
           (bd (F36 k r3.1.1 (9 : Int)) (fun (r6 : ((List (UInt8)) × (Unit)) × (((List (Int)) × ((Bool) × (Unit))) × (Unit))) => (br (cond true (r6.1.1 == ([97, 98] : List UInt8)) false)
             (bd (F22 k r6.2.1 (9 : Int)) (fun (r7 : ((Int) × (Unit)) × (((List (Int)) × ((Bool) × (Unit))) × (Unit))) => (br (cond true (r7.1.1 == (5 : Int)) false)
               (bd (F37 k r7.2.1) (fun (r8 : ((Bool) × (Unit)) × (Unit)) => (some (((cond true r8.1.1 false), ()), ()))))
               (some ((false, ()), ())))))
             (some ((false, ()), ())))))
           (some ((false, ()), ())))))
         (some ((false, ()), ())))))
       (some ((false, ()), ()))))))))))) := by kernel_rfl

end Go.Proofs.Ytnffdeokhcojfaa.E

namespace Go.Proofs.Ytnffdeokhcojfaa.E
open Go
set_option linter.unusedVariables false
set_option maxRecDepth 100000

noncomputable def F5 (k : Nat) (a0 : Int) (a1 : Int) : Option (((Bool) × (Unit)) × (Unit)) := fnE E0 k 5 (a0, a1, ())

noncomputable def F6 (k : Nat) (a0 : List (Int)) : Option (((Bool) × (Unit)) × (Unit)) := fnE E0 k 6 (a0, ())

noncomputable def F10 (k : Nat) (a0 : Int) (a1 : List (UInt8)) : Option (((Bool) × (Unit)) × (Unit)) := fnE E0 k 10 (a0, a1, ())

noncomputable def F11 (k : Nat) (a0 : Int) (a1 : List (UInt8)) : Option (((Bool) × (Unit)) × (Unit)) := fnE E0 k 11 (a0, a1, ())

noncomputable def F12 (k : Nat) (a0 : List (Int)) (a1 : List ((Int) × ((Int) × (Unit)))) : Option (((Bool) × (Unit)) × (Unit)) := fnE E0 k 12 (a0, a1, ())

noncomputable def F13 (k : Nat) (a0 : List (Int)) (a1 : List ((Int) × ((Int) × (Unit)))) : Option (((Bool) × (Unit)) × (Unit)) := fnE E0 k 13 (a0, a1, ())

noncomputable def L5_0 (k : Nat) (s0 : Int) (s1 : Int) (s2 : List (Int)) (s3 : List (Int)) : Nat → (Bool) × ((Int) × (Unit)) → Option (LO ((Bool) × (Unit)) ((Bool) × ((Int) × (Unit))) (Unit)) :=
  loopF true 0 68 cut5_0 (s0, s1, s2, s3, ()) (fun σ K => ev E0 (fnE E0 k) 5 (rvOf 5) k (codeOf 5 0) _ σ K)

theorem L5_0_step (k m : Nat) (s0 : Int) (s1 : Int) (s2 : List (Int)) (s3 : List (Int)) (x0 : Bool) (x1 : Int) : L5_0 k s0 s1 s2 s3 (m + 1) (x0, x1, ()) =
  (br (cond (decide (x1 < (((List.length s2) : Nat) : Int))) (decide (x1 < (((List.length s3) : Nat) : Int))) false)
   (br (inB x1 (List.length s2))
    (br (inB x1 (List.length s3))
     (br ((List.getD s2 (Int.toNat x1) (0 : Int)) != (List.getD s3 (Int.toNat x1) (0 : Int)))
      (br (inB x1 (List.length s2))
       (br (inB x1 (List.length s3))
        (some (.ret (((decide ((List.getD s2 (Int.toNat x1) (0 : Int)) < (List.getD s3 (Int.toNat x1) (0 : Int)))) == (decide (s0 < s1))), ()) ()))
        none)
       none)
      (L5_0 k s0 s1 s2 s3 m (x0, ((IntKind.wrap (IntKind.i64) (x1 + (1 : Int))), ()))))
     none)
    none)
   (some (.brk (x0, (x1, ()))))) := by kernel_rfl

theorem F5_step (k : Nat) (a0 : Int) (a1 : Int) : F5 (k + 1) a0 a1 =
  (bd (F18 k ) (fun (r : ((Bool) × (Unit)) × (Unit)) => (br (!r.1.1)
    (some ((false, ()), ()))
    (bd (F19 k a0) (fun (r1 : ((List (Int)) × ((Bool) × (Unit))) × (Unit)) => (bd (F19 k a1) (fun (r2 : ((List (Int)) × ((Bool) × (Unit))) × (Unit)) => (br (cond (!r1.1.2.1) true (!r2.1.2.1))
       (some ((true, ()), ()))
       (br (a0 == a1)
        (bd (F20 k r1.1.1 r2.1.1) (fun (r3 : ((Bool) × (Unit)) × (Unit)) => (some ((r3.1.1, ()), ()))))
        (bdL (L5_0 k a0 a1 r1.1.1 r2.1.1 k (false, ((0 : Int), ())))
         (fun (b : (Bool) × ((Int) × (Unit))) => (some ((false, ()), ())))
         (fun (j : Nat) => (fun (b : (Bool) × ((Int) × (Unit))) => none))
         (fun (q : (Bool) × (Unit)) => (fun (b : Unit) => (some (q, ())))))))))))))) := by kernel_rfl

theorem F6_step (k : Nat) (a0 : List (Int)) : F6 (k + 1) a0 =
  (bd (F18 k ) (fun (r : ((Bool) × (Unit)) × (Unit)) => (br (!r.1.1)
    (some ((false, ()), ()))
    (br (decide ((((List.length a0) : Nat) : Int) > (50 : Int)))
     (some ((true, ()), ()))
     (bd (F21 k a0) (fun (r1 : (((List (Int)) × ((Bool) × (Unit))) × (Unit)) × (Unit)) => (bd (F22 k r1.1.1 (562949953421311 : Int)) (fun (r2 : ((Int) × (Unit)) × (((List (Int)) × ((Bool) × (Unit))) × (Unit))) => (bd (F23 k r2.2.1) (fun (r3 : ((Bool) × (Unit)) × (Unit)) => (br r3.1.1
         (some (((r2.1.1 == (0 : Int)), ()), ()))
         (bd (F19 k r2.1.1) (fun (r4 : ((List (Int)) × ((Bool) × (Unit))) × (Unit)) => (br r4.1.2.1
           (bd (F24 k r2.2.1) (fun (r5 : ((Int) × (Unit)) × (Unit)) => (br (cond true ((IntKind.wrap (IntKind.i64) ((((List.length r4.1.1) : Nat) : Int) + r5.1.1)) == (((List.length a0) : Nat) : Int)) false)
             (br ((true && (leB (((List.length r4.1.1) : Nat) : Int) (List.length a0))) && true)
              (bd (F20 k r4.1.1 (List.take (Int.toNat (((List.length r4.1.1) : Nat) : Int)) a0)) (fun (r6 : ((Bool) × (Unit)) × (Unit)) => (some (((cond true r6.1.1 false), ()), ()))))
              none)
             (some ((false, ()), ())))))
           (some ((false, ()), ())))))))))))))))) := by kernel_rfl

theorem F10_step (k : Nat) (a0 : Int) (a1 : List (UInt8)) : F10 (k + 1) a0 a1 =
  (bd (F18 k ) (fun (r : ((Bool) × (Unit)) × (Unit)) => (br (!r.1.1)
    (some ((false, ()), ()))
    (br (decide ((((List.length a1) : Nat) : Int) > (20000 : Int)))
     (some ((true, ()), ()))
     (bd (F19 k a0) (fun (r1 : ((List (Int)) × ((Bool) × (Unit))) × (Unit)) => (bd (F33 k a0) (fun (r2 : ((List (Int)) × ((Bool) × (Unit))) × (Unit)) => (br (r1.1.2.1 == r2.1.2.1)
        (bd (F20 k r1.1.1 r2.1.1) (fun (r3 : ((Bool) × (Unit)) × (Unit)) => (br (cond true r3.1.1 false)
          (bd (F34 k a1) (fun (r4 : ((List (Int)) × (Unit)) × (Unit)) => (bd (F35 k a1) (fun (r5 : ((List (Int)) × (Unit)) × (Unit)) => (bd (F20 k r4.1.1 r5.1.1) (fun (r6 : ((Bool) × (Unit)) × (Unit)) => (some (((cond true r6.1.1 false), ()), ()))))))))
          (some ((false, ()), ())))))
        (some ((false, ()), ()))))))))))) := by kernel_rfl

theorem F11_step (k : Nat) (a0 : Int) (a1 : List (UInt8)) : F11 (k + 1) a0 a1 =
  (bd (F18 k ) (fun (r : ((Bool) × (Unit)) × (Unit)) => (br (!r.1.1)
    (some ((false, ()), ()))
    (br (decide ((((List.length a1) : Nat) : Int) > (20000 : Int)))
     (some ((true, ()), ()))
     (bd (F19 k a0) (fun (r1 : ((List (Int)) × ((Bool) × (Unit))) × (Unit)) => (br (!(r1.1.2.1 == (cond (decide (a0 ≥ (0 : Int))) (decide (a0 ≤ (562949953421311 : Int))) false)))
       (some ((false, ()), ()))
       (bd (F34 k a1) (fun (r2 : ((List (Int)) × (Unit)) × (Unit)) => (br (decide ((((List.length r1.1.1) + (List.length r2.1.1)) * (1 : Nat)) ≤ (140737488355328 : Nat)))
         (bd (F21 k (r1.1.1 ++ r2.1.1)) (fun (r3 : (((List (Int)) × ((Bool) × (Unit))) × (Unit)) × (Unit)) => (br r1.1.2.1
           (bd (F22 k r3.1.1 a0) (fun (r4 : ((Int) × (Unit)) × (((List (Int)) × ((Bool) × (Unit))) × (Unit))) => (br (cond true (r4.1.1 != a0) false)
             (some ((false, ()), ()))
             (bd (F36 k r4.2.1 (((List.length a1) : Nat) : Int)) (fun (r5 : ((List (UInt8)) × (Unit)) × (((List (Int)) × ((Bool) × (Unit))) × (Unit))) => (br (cond false true (!(r5.1.1 == a1)))
               (some ((false, ()), ()))
               (bd (F37 k r5.2.1) (fun (r6 : ((Bool) × (Unit)) × (Unit)) => (br (cond false true (!r6.1.1))
                 (some ((false, ()), ()))
                 (br ((((List.length (r1.1.1 ++ r2.1.1)) : Nat) : Int) == (0 : Int))
                  (some ((false, ()), ()))
                  (br ((true && (leB (IntKind.wrap (IntKind.i64) ((((List.length (r1.1.1 ++ r2.1.1)) : Nat) : Int) - (1 : Int))) (List.length (r1.1.1 ++ r2.1.1)))) && true)
                   (bd (F21 k (List.take ((Int.toNat (IntKind.wrap (IntKind.i64) ((((List.length (r1.1.1 ++ r2.1.1)) : Nat) : Int) - (1 : Int)))) - (0 : Nat)) (List.drop (0 : Nat) (r1.1.1 ++ r2.1.1)))) (fun (r7 : (((List (Int)) × ((Bool) × (Unit))) × (Unit)) × (Unit)) => (br r1.1.2.1
                     (bd (F22 k r7.1.1 a0) (fun (r8 : ((Int) × (Unit)) × (((List (Int)) × ((Bool) × (Unit))) × (Unit))) => (bd (F36 k r8.2.1 (((List.length a1) : Nat) : Int)) (fun (r9 : ((List (UInt8)) × (Unit)) × (((List (Int)) × ((Bool) × (Unit))) × (Unit))) => (br (r9.1.1 == ([] : List UInt8))
                        (bd (F23 k r9.2.1) (fun (r10 : ((Bool) × (Unit)) × (Unit)) => (br (cond true r10.1.1 false)
                          (bd (F37 k r9.2.1) (fun (r11 : ((Bool) × (Unit)) × (Unit)) => (some (((cond true (!r11.1.1) false), ()), ()))))
                          (some ((false, ()), ())))))
                        (some ((false, ()), ())))))))
                     (bd (F36 k r7.1.1 (((List.length a1) : Nat) : Int)) (fun (r8 : ((List (UInt8)) × (Unit)) × (((List (Int)) × ((Bool) × (Unit))) × (Unit))) => (br (r8.1.1 == ([] : List UInt8))
                       (bd (F23 k r8.2.1) (fun (r9 : ((Bool) × (Unit)) × (Unit)) => (br (cond true r9.1.1 false)
                         (bd (F37 k r8.2.1) (fun (r10 : ((Bool) × (Unit)) × (Unit)) => (some (((cond true (!r10.1.1) false), ()), ()))))
                         (some ((false, ()), ())))))
                       (some ((false, ()), ()))))))))
                   none)))))))))))
           (bd (F36 k r3.1.1 (((List.length a1) : Nat) : Int)) (fun (r4 : ((List (UInt8)) × (Unit)) × (((List (Int)) × ((Bool) × (Unit))) × (Unit))) => (br (cond false true (!(r4.1.1 == a1)))
             (some ((false, ()), ()))
             (bd (F37 k r4.2.1) (fun (r5 : ((Bool) × (Unit)) × (Unit)) => (br (cond false true (!r5.1.1))
               (some ((false, ()), ()))
               (br ((((List.length (r1.1.1 ++ r2.1.1)) : Nat) : Int) == (0 : Int))
                (some ((false, ()), ()))
                (br ((true && (leB (IntKind.wrap (IntKind.i64) ((((List.length (r1.1.1 ++ r2.1.1)) : Nat) : Int) - (1 : Int))) (List.length (r1.1.1 ++ r2.1.1)))) && true)
                 (bd (F21 k (List.take ((Int.toNat (IntKind.wrap (IntKind.i64) ((((List.length (r1.1.1 ++ r2.1.1)) : Nat) : Int) - (1 : Int)))) - (0 : Nat)) (List.drop (0 : Nat) (r1.1.1 ++ r2.1.1)))) (fun (r6 : (((List (Int)) × ((Bool) × (Unit))) × (Unit)) × (Unit)) => (br r1.1.2.1
                   (bd (F22 k r6.1.1 a0) (fun (r7 : ((Int) × (Unit)) × (((List (Int)) × ((Bool) × (Unit))) × (Unit))) => (bd (F36 k r7.2.1 (((List.length a1) : Nat) : Int)) (fun (r8 : ((List (UInt8)) × (Unit)) × (((List (Int)) × ((Bool) × (Unit))) × (Unit))) => (br (r8.1.1 == ([] : List UInt8))
                      (bd (F23 k r8.2.1) (fun (r9 : ((Bool) × (Unit)) × (Unit)) => (br (cond true r9.1.1 false)
                        (bd (F37 k r8.2.1) (fun (r10 : ((Bool) × (Unit)) × (Unit)) => (some (((cond true (!r10.1.1) false), ()), ()))))
                        (some ((false, ()), ())))))
                      (some ((false, ()), ())))))))
                   (bd (F36 k r6.1.1 (((List.length a1) : Nat) : Int)) (fun (r7 : ((List (UInt8)) × (Unit)) × (((List (Int)) × ((Bool) × (Unit))) × (Unit))) => (br (r7.1.1 == ([] : List UInt8))
                     (bd (F23 k r7.2.1) (fun (r8 : ((Bool) × (Unit)) × (Unit)) => (br (cond true r8.1.1 false)
                       (bd (F37 k r7.2.1) (fun (r9 : ((Bool) × (Unit)) × (Unit)) => (some (((cond true (!r9.1.1) false), ()), ()))))
                       (some ((false, ()), ())))))
                     (some ((false, ()), ()))))))))
                 none)))))))))))
         none)))))))))) := by kernel_rfl

noncomputable def L12_0 (k : Nat) (s0 : Unit) : Nat → (List (Int)) × ((Int) × (Unit)) → Option (LO ((Bool) × (Unit)) ((List (Int)) × ((Int) × (Unit))) (Unit)) :=
  loopF true 0 128 cut12_0 (s0, ()) (fun σ K => ev E0 (fnE E0 k) 12 (rvOf 12) k (codeOf 12 0) _ σ K)

noncomputable def L12_2 (k : Nat) (s0 : List ((Int) × ((Int) × (Unit)))) (s1 : Unit) (s2 : Unit) : Nat → (Bool) × (((List (Int)) × ((Bool) × (Unit))) × (((List (Int)) × ((Bool) × (Unit))) × ((Int) × (Unit)))) → Option (LO ((Bool) × (Unit)) ((Bool) × (((List (Int)) × ((Bool) × (Unit))) × (((List (Int)) × ((Bool) × (Unit))) × ((Int) × (Unit))))) (((List (Int)) × ((Bool) × (Unit))) × (((List (Int)) × ((Bool) × (Unit))) × (Unit)))) :=
  loopF true 2 128 cut12_2 (s0, s1, s2, ()) (fun σ K => ev E0 (fnE E0 k) 12 (rvOf 12) k (codeOf 12 2) _ σ K)

theorem L12_0_step (k m : Nat) (s0 : Unit) (x0 : List (Int)) (x1 : Int) : L12_0 k s0 (m + 1) (x0, x1, ()) =
  (br (decide (x1 < (((List.length x0) : Nat) : Int)))
   (br (inB x1 (List.length x0))
    (br (inB x1 (List.length x0))
     (L12_0 k s0 m ((List.set x0 (Int.toNat x1) (IntKind.wrap (IntKind.u8) (((BitVec.toNat ((BitVec.ofInt (8 : Nat) (List.getD x0 (Int.toNat x1) (0 : Int))) ^^^ (BitVec.ofInt (8 : Nat) (85 : Int)))) : Nat) : Int))), ((IntKind.wrap (IntKind.i64) (x1 + (1 : Int))), ())))
     none)
    none)
   (some (.brk (x0, (x1, ()))))) := by kernel_rfl

theorem L12_2_step (k m : Nat) (s0 : List ((Int) × ((Int) × (Unit)))) (s1 : Unit) (s2 : Unit) (x0 : Bool) (x1 : (List (Int)) × ((Bool) × (Unit))) (x2 : (List (Int)) × ((Bool) × (Unit))) (x3 : Int) : L12_2 k s0 s1 s2 (m + 1) (x0, x1, x2, x3, ()) =
  (br (decide (x3 < (((List.length s0) : Nat) : Int)))
   (br (inB x3 (List.length s0))
    (br (inB x3 (List.length s0))
     (br ((List.getD s0 (Int.toNat x3) ((0 : Int), ((0 : Int), ()))).1 == (0 : Int))
      (bd (F22 k x1 (List.getD s0 (Int.toNat x3) ((0 : Int), ((0 : Int), ()))).2.1) (fun (r : ((Int) × (Unit)) × (((List (Int)) × ((Bool) × (Unit))) × (Unit))) => (bd (F38 k x2 (List.getD s0 (Int.toNat x3) ((0 : Int), ((0 : Int), ()))).2.1) (fun (r1 : ((Int) × (Unit)) × (((List (Int)) × ((Bool) × (Unit))) × (Unit))) => (br (r.1.1 != r1.1.1)
         (some (.ret (false, ()) (r.2.1, (r1.2.1, ()))))
         (bd (F23 k r.2.1) (fun (r2 : ((Bool) × (Unit)) × (Unit)) => (br (boolEq (!(r2.1.1 == r1.2.1.2.1)) false)
           (bd (F24 k r.2.1) (fun (r3 : ((Int) × (Unit)) × (Unit)) => (br (boolEq (cond false true (r3.1.1 != (((List.length r1.2.1.1) : Nat) : Int))) false)
             (bd (F37 k r.2.1) (fun (r4 : ((Bool) × (Unit)) × (Unit)) => (br (boolEq (!r1.2.1.2.1) true)
               (br (cond false true (!(r4.1.1 == (cond true ((((List.length r1.2.1.1) : Nat) : Int) == (0 : Int)) false))))
                (some (.ret (false, ()) (r.2.1, (r1.2.1, ()))))
                (L12_2 k s0 s1 s2 m (x0, (r.2.1, (r1.2.1, ((IntKind.wrap (IntKind.i64) (x3 + (1 : Int))), ()))))))
               (br (cond false true (!(r4.1.1 == false)))
                (some (.ret (false, ()) (r.2.1, (r1.2.1, ()))))
                (L12_2 k s0 s1 s2 m (x0, (r.2.1, (r1.2.1, ((IntKind.wrap (IntKind.i64) (x3 + (1 : Int))), ())))))))))
             none)))
           none))))))))
      (br ((List.getD s0 (Int.toNat x3) ((0 : Int), ((0 : Int), ()))).1 == (1 : Int))
       (bd (F36 k x1 (List.getD s0 (Int.toNat x3) ((0 : Int), ((0 : Int), ()))).2.1) (fun (r : ((List (UInt8)) × (Unit)) × (((List (Int)) × ((Bool) × (Unit))) × (Unit))) => (bd (F39 k x2 (List.getD s0 (Int.toNat x3) ((0 : Int), ((0 : Int), ()))).2.1) (fun (r1 : ((List (UInt8)) × (Unit)) × (((List (Int)) × ((Bool) × (Unit))) × (Unit))) => (br (!(r.1.1 == r1.1.1))
          (some (.ret (false, ()) (r.2.1, (r1.2.1, ()))))
          (bd (F23 k r.2.1) (fun (r2 : ((Bool) × (Unit)) × (Unit)) => (br (boolEq (!(r2.1.1 == r1.2.1.2.1)) false)
            (bd (F24 k r.2.1) (fun (r3 : ((Int) × (Unit)) × (Unit)) => (br (boolEq (cond false true (r3.1.1 != (((List.length r1.2.1.1) : Nat) : Int))) false)
              (bd (F37 k r.2.1) (fun (r4 : ((Bool) × (Unit)) × (Unit)) => (br (boolEq (!r1.2.1.2.1) true)
                (br (cond false true (!(r4.1.1 == (cond true ((((List.length r1.2.1.1) : Nat) : Int) == (0 : Int)) false))))
                 (some (.ret (false, ()) (r.2.1, (r1.2.1, ()))))
                 (L12_2 k s0 s1 s2 m (x0, (r.2.1, (r1.2.1, ((IntKind.wrap (IntKind.i64) (x3 + (1 : Int))), ()))))))
                (br (cond false true (!(r4.1.1 == false)))
                 (some (.ret (false, ()) (r.2.1, (r1.2.1, ()))))
                 (L12_2 k s0 s1 s2 m (x0, (r.2.1, (r1.2.1, ((IntKind.wrap (IntKind.i64) (x3 + (1 : Int))), ())))))))))
              none)))
            none))))))))
       (br ((List.getD s0 (Int.toNat x3) ((0 : Int), ((0 : Int), ()))).1 == (2 : Int))
        (bd (F40 k x1 (List.getD s0 (Int.toNat x3) ((0 : Int), ((0 : Int), ()))).2.1) (fun (r : ((List (Int)) × (Unit)) × (((List (Int)) × ((Bool) × (Unit))) × (Unit))) => (bd (F41 k x2 (List.getD s0 (Int.toNat x3) ((0 : Int), ((0 : Int), ()))).2.1) (fun (r1 : ((List (Int)) × (Unit)) × (((List (Int)) × ((Bool) × (Unit))) × (Unit))) => (bd (F20 k r.1.1 r1.1.1) (fun (r2 : ((Bool) × (Unit)) × (Unit)) => (br (!r2.1.1)
            (some (.ret (false, ()) (r.2.1, (r1.2.1, ()))))
            (bd (F23 k r.2.1) (fun (r3 : ((Bool) × (Unit)) × (Unit)) => (br (boolEq (!(r3.1.1 == r1.2.1.2.1)) false)
              (bd (F24 k r.2.1) (fun (r4 : ((Int) × (Unit)) × (Unit)) => (br (boolEq (cond false true (r4.1.1 != (((List.length r1.2.1.1) : Nat) : Int))) false)
                (bd (F37 k r.2.1) (fun (r5 : ((Bool) × (Unit)) × (Unit)) => (br (boolEq (!r1.2.1.2.1) true)
                  (br (cond false true (!(r5.1.1 == (cond true ((((List.length r1.2.1.1) : Nat) : Int) == (0 : Int)) false))))
                   (some (.ret (false, ()) (r.2.1, (r1.2.1, ()))))
                   (L12_2 k s0 s1 s2 m (x0, (r.2.1, (r1.2.1, ((IntKind.wrap (IntKind.i64) (x3 + (1 : Int))), ()))))))
                  (br (cond false true (!(r5.1.1 == false)))
                   (some (.ret (false, ()) (r.2.1, (r1.2.1, ()))))
                   (L12_2 k s0 s1 s2 m (x0, (r.2.1, (r1.2.1, ((IntKind.wrap (IntKind.i64) (x3 + (1 : Int))), ())))))))))
                none)))
              none))))))))))
        (bd (F23 k x1) (fun (r : ((Bool) × (Unit)) × (Unit)) => (br (boolEq (!(r.1.1 == x2.2.1)) false)
          (bd (F24 k x1) (fun (r1 : ((Int) × (Unit)) × (Unit)) => (br (boolEq (cond false true (r1.1.1 != (((List.length x2.1) : Nat) : Int))) false)
            (bd (F37 k x1) (fun (r2 : ((Bool) × (Unit)) × (Unit)) => (br (boolEq (!x2.2.1) true)
              (br (cond false true (!(r2.1.1 == (cond true ((((List.length x2.1) : Nat) : Int) == (0 : Int)) false))))
               (some (.ret (false, ()) (x1, (x2, ()))))
               (L12_2 k s0 s1 s2 m (x0, (x1, (x2, ((IntKind.wrap (IntKind.i64) (x3 + (1 : Int))), ()))))))
              (br (cond false true (!(r2.1.1 == false)))
               (some (.ret (false, ()) (x1, (x2, ()))))
               (L12_2 k s0 s1 s2 m (x0, (x1, (x2, ((IntKind.wrap (IntKind.i64) (x3 + (1 : Int))), ())))))))))
            none)))
          none))))))
     none)
    none)
   (some (.brk (x0, (x1, (x2, (x3, ()))))))) := by kernel_rfl

theorem F12_step (k : Nat) (a0 : List (Int)) (a1 : List ((Int) × ((Int) × (Unit)))) : F12 (k + 1) a0 a1 =
  (bd (F18 k ) (fun (r : ((Bool) × (Unit)) × (Unit)) => (br (!r.1.1)
    (some ((false, ()), ()))
    (br (cond (decide ((((List.length a0) : Nat) : Int) > (5000 : Int))) true (decide ((((List.length a1) : Nat) : Int) > (200 : Int))))
     (some ((true, ()), ()))
     (bd (F25 k a0) (fun (r1 : ((List (Int)) × (Unit)) × (Unit)) => (bd (F21 k r1.1.1) (fun (r2 : (((List (Int)) × ((Bool) × (Unit))) × (Unit)) × (Unit)) => (bd (F25 k a0) (fun (r3 : ((List (Int)) × (Unit)) × (Unit)) => (bd (F20 k r1.1.1 a0) (fun (r4 : ((Bool) × (Unit)) × (Unit)) => (br (cond false true (!r4.1.1))
          (some ((false, ()), ()))
          (bdL (L12_0 k () k (r1.1.1, ((0 : Int), ())))
           (fun (b : (List (Int)) × ((Int) × (Unit))) => (bdL (L12_2 k a1 () () k (false, (r2.1.1, ((r3.1.1, (false, ())), ((0 : Int), ())))))
            (fun (b1 : (Bool) × (((List (Int)) × ((Bool) × (Unit))) × (((List (Int)) × ((Bool) × (Unit))) × ((Int) × (Unit))))) => (some ((true, ()), ())))
            (fun (j : Nat) => (fun (b1 : (Bool) × (((List (Int)) × ((Bool) × (Unit))) × (((List (Int)) × ((Bool) × (Unit))) × ((Int) × (Unit))))) => none))
            (fun (q : (Bool) × (Unit)) => (fun (b1 : ((List (Int)) × ((Bool) × (Unit))) × (((List (Int)) × ((Bool) × (Unit))) × (Unit))) => (some (q, ()))))))
           (fun (j : Nat) => (fun (b : (List (Int)) × ((Int) × (Unit))) => none))
           (fun (q : (Bool) × (Unit)) => (fun (b : Unit) => (some (q, ())))))))))))))))))) := by kernel_rfl

noncomputable def L13_0 (k : Nat) (s0 : List ((Int) × ((Int) × (Unit)))) (s1 : Unit) : Nat → (Bool) × (((List (Int)) × ((Bool) × (Unit))) × ((Bool) × ((Int) × (Unit)))) → Option (LO ((Bool) × (Unit)) ((Bool) × (((List (Int)) × ((Bool) × (Unit))) × ((Bool) × ((Int) × (Unit))))) (((List (Int)) × ((Bool) × (Unit))) × (Unit))) :=
  loopF true 0 90 cut13_0 (s0, s1, ()) (fun σ K => ev E0 (fnE E0 k) 13 (rvOf 13) k (codeOf 13 0) _ σ K)

theorem L13_0_step (k m : Nat) (s0 : List ((Int) × ((Int) × (Unit)))) (s1 : Unit) (x0 : Bool) (x1 : (List (Int)) × ((Bool) × (Unit))) (x2 : Bool) (x3 : Int) : L13_0 k s0 s1 (m + 1) (x0, x1, x2, x3, ()) =
  (br (decide (x3 < (((List.length s0) : Nat) : Int)))
   (br (inB x3 (List.length s0))
    (br ((List.getD s0 (Int.toNat x3) ((0 : Int), ((0 : Int), ()))).1 == (0 : Int))
     (br (inB x3 (List.length s0))
      (bd (F22 k x1 (List.getD s0 (Int.toNat x3) ((0 : Int), ((0 : Int), ()))).2.1) (fun (r : ((Int) × (Unit)) × (((List (Int)) × ((Bool) × (Unit))) × (Unit))) => (br x2
        (br (r.1.1 != (0 : Int))
         (some (.ret (false, ()) (r.2.1, ())))
         (bd (F23 k r.2.1) (fun (r1 : ((Bool) × (Unit)) × (Unit)) => (br (cond true (cond false true (!r1.1.1)) false)
           (some (.ret (false, ()) (r.2.1, ())))
           (bd (F23 k r.2.1) (fun (r2 : ((Bool) × (Unit)) × (Unit)) => (br r2.1.1
             (br (r.1.1 != (0 : Int))
              (some (.ret (false, ()) (r.2.1, ())))
              (bd (F24 k r.2.1) (fun (r3 : ((Int) × (Unit)) × (Unit)) => (br (cond false true (r3.1.1 != (0 : Int)))
                (some (.ret (false, ()) (r.2.1, ())))
                (bd (F37 k r.2.1) (fun (r4 : ((Bool) × (Unit)) × (Unit)) => (br (cond false true (cond true (cond false true r4.1.1) false))
                  (some (.ret (false, ()) (r.2.1, ())))
                  (bd (F23 k r.2.1) (fun (r5 : ((Bool) × (Unit)) × (Unit)) => (L13_0 k s0 s1 m (x0, (r.2.1, (r5.1.1, ((IntKind.wrap (IntKind.i64) (x3 + (1 : Int))), ()))))))))))))))
             (bd (F23 k r.2.1) (fun (r3 : ((Bool) × (Unit)) × (Unit)) => (L13_0 k s0 s1 m (x0, (r.2.1, (r3.1.1, ((IntKind.wrap (IntKind.i64) (x3 + (1 : Int))), ()))))))))))))))
        (bd (F23 k r.2.1) (fun (r1 : ((Bool) × (Unit)) × (Unit)) => (br r1.1.1
          (br (r.1.1 != (0 : Int))
           (some (.ret (false, ()) (r.2.1, ())))
           (bd (F24 k r.2.1) (fun (r2 : ((Int) × (Unit)) × (Unit)) => (br (cond false true (r2.1.1 != (0 : Int)))
             (some (.ret (false, ()) (r.2.1, ())))
             (bd (F37 k r.2.1) (fun (r3 : ((Bool) × (Unit)) × (Unit)) => (br (cond false true (cond true (cond false true r3.1.1) false))
               (some (.ret (false, ()) (r.2.1, ())))
               (bd (F23 k r.2.1) (fun (r4 : ((Bool) × (Unit)) × (Unit)) => (L13_0 k s0 s1 m (x0, (r.2.1, (r4.1.1, ((IntKind.wrap (IntKind.i64) (x3 + (1 : Int))), ()))))))))))))))
          (bd (F23 k r.2.1) (fun (r2 : ((Bool) × (Unit)) × (Unit)) => (L13_0 k s0 s1 m (x0, (r.2.1, (r2.1.1, ((IntKind.wrap (IntKind.i64) (x3 + (1 : Int))), ())))))))))))))
      none)
     (br ((List.getD s0 (Int.toNat x3) ((0 : Int), ((0 : Int), ()))).1 == (1 : Int))
      (br (inB x3 (List.length s0))
       (bd (F36 k x1 (List.getD s0 (Int.toNat x3) ((0 : Int), ((0 : Int), ()))).2.1) (fun (r : ((List (UInt8)) × (Unit)) × (((List (Int)) × ((Bool) × (Unit))) × (Unit))) => (br x2
         (br ((((List.length r.1.1) : Nat) : Int) != (0 : Int))
          (some (.ret (false, ()) (r.2.1, ())))
          (bd (F23 k r.2.1) (fun (r1 : ((Bool) × (Unit)) × (Unit)) => (br (cond true (cond false true (!r1.1.1)) false)
            (some (.ret (false, ()) (r.2.1, ())))
            (bd (F23 k r.2.1) (fun (r2 : ((Bool) × (Unit)) × (Unit)) => (br r2.1.1
              (br ((((List.length r.1.1) : Nat) : Int) != (0 : Int))
               (some (.ret (false, ()) (r.2.1, ())))
               (bd (F24 k r.2.1) (fun (r3 : ((Int) × (Unit)) × (Unit)) => (br (cond false true (r3.1.1 != (0 : Int)))
                 (some (.ret (false, ()) (r.2.1, ())))
                 (bd (F37 k r.2.1) (fun (r4 : ((Bool) × (Unit)) × (Unit)) => (br (cond false true (cond true (cond false true r4.1.1) false))
                   (some (.ret (false, ()) (r.2.1, ())))
                   (bd (F23 k r.2.1) (fun (r5 : ((Bool) × (Unit)) × (Unit)) => (L13_0 k s0 s1 m (x0, (r.2.1, (r5.1.1, ((IntKind.wrap (IntKind.i64) (x3 + (1 : Int))), ()))))))))))))))
              (bd (F23 k r.2.1) (fun (r3 : ((Bool) × (Unit)) × (Unit)) => (L13_0 k s0 s1 m (x0, (r.2.1, (r3.1.1, ((IntKind.wrap (IntKind.i64) (x3 + (1 : Int))), ()))))))))))))))
         (bd (F23 k r.2.1) (fun (r1 : ((Bool) × (Unit)) × (Unit)) => (br r1.1.1
           (br ((((List.length r.1.1) : Nat) : Int) != (0 : Int))
            (some (.ret (false, ()) (r.2.1, ())))
            (bd (F24 k r.2.1) (fun (r2 : ((Int) × (Unit)) × (Unit)) => (br (cond false true (r2.1.1 != (0 : Int)))
              (some (.ret (false, ()) (r.2.1, ())))
              (bd (F37 k r.2.1) (fun (r3 : ((Bool) × (Unit)) × (Unit)) => (br (cond false true (cond true (cond false true r3.1.1) false))
                (some (.ret (false, ()) (r.2.1, ())))
                (bd (F23 k r.2.1) (fun (r4 : ((Bool) × (Unit)) × (Unit)) => (L13_0 k s0 s1 m (x0, (r.2.1, (r4.1.1, ((IntKind.wrap (IntKind.i64) (x3 + (1 : Int))), ()))))))))))))))
           (bd (F23 k r.2.1) (fun (r2 : ((Bool) × (Unit)) × (Unit)) => (L13_0 k s0 s1 m (x0, (r.2.1, (r2.1.1, ((IntKind.wrap (IntKind.i64) (x3 + (1 : Int))), ())))))))))))))
       none)
      (br ((List.getD s0 (Int.toNat x3) ((0 : Int), ((0 : Int), ()))).1 == (2 : Int))
       (br (inB x3 (List.length s0))
        (bd (F40 k x1 (List.getD s0 (Int.toNat x3) ((0 : Int), ((0 : Int), ()))).2.1) (fun (r : ((List (Int)) × (Unit)) × (((List (Int)) × ((Bool) × (Unit))) × (Unit))) => (br x2
          (br ((((List.length r.1.1) : Nat) : Int) != (0 : Int))
           (some (.ret (false, ()) (r.2.1, ())))
           (bd (F23 k r.2.1) (fun (r1 : ((Bool) × (Unit)) × (Unit)) => (br (cond true (cond false true (!r1.1.1)) false)
             (some (.ret (false, ()) (r.2.1, ())))
             (bd (F23 k r.2.1) (fun (r2 : ((Bool) × (Unit)) × (Unit)) => (br r2.1.1
               (br ((((List.length r.1.1) : Nat) : Int) != (0 : Int))
                (some (.ret (false, ()) (r.2.1, ())))
                (bd (F24 k r.2.1) (fun (r3 : ((Int) × (Unit)) × (Unit)) => (br (cond false true (r3.1.1 != (0 : Int)))
                  (some (.ret (false, ()) (r.2.1, ())))
                  (bd (F37 k r.2.1) (fun (r4 : ((Bool) × (Unit)) × (Unit)) => (br (cond false true (cond true (cond false true r4.1.1) false))
                    (some (.ret (false, ()) (r.2.1, ())))
                    (bd (F23 k r.2.1) (fun (r5 : ((Bool) × (Unit)) × (Unit)) => (L13_0 k s0 s1 m (x0, (r.2.1, (r5.1.1, ((IntKind.wrap (IntKind.i64) (x3 + (1 : Int))), ()))))))))))))))
               (bd (F23 k r.2.1) (fun (r3 : ((Bool) × (Unit)) × (Unit)) => (L13_0 k s0 s1 m (x0, (r.2.1, (r3.1.1, ((IntKind.wrap (IntKind.i64) (x3 + (1 : Int))), ()))))))))))))))
          (bd (F23 k r.2.1) (fun (r1 : ((Bool) × (Unit)) × (Unit)) => (br r1.1.1
            (br ((((List.length r.1.1) : Nat) : Int) != (0 : Int))
             (some (.ret (false, ()) (r.2.1, ())))
             (bd (F24 k r.2.1) (fun (r2 : ((Int) × (Unit)) × (Unit)) => (br (cond false true (r2.1.1 != (0 : Int)))
               (some (.ret (false, ()) (r.2.1, ())))
               (bd (F37 k r.2.1) (fun (r3 : ((Bool) × (Unit)) × (Unit)) => (br (cond false true (cond true (cond false true r3.1.1) false))
                 (some (.ret (false, ()) (r.2.1, ())))
                 (bd (F23 k r.2.1) (fun (r4 : ((Bool) × (Unit)) × (Unit)) => (L13_0 k s0 s1 m (x0, (r.2.1, (r4.1.1, ((IntKind.wrap (IntKind.i64) (x3 + (1 : Int))), ()))))))))))))))
            (bd (F23 k r.2.1) (fun (r2 : ((Bool) × (Unit)) × (Unit)) => (L13_0 k s0 s1 m (x0, (r.2.1, (r2.1.1, ((IntKind.wrap (IntKind.i64) (x3 + (1 : Int))), ())))))))))))))
        none)
       (br x2
        (bd (F23 k x1) (fun (r : ((Bool) × (Unit)) × (Unit)) => (br (cond true (cond false true (!r.1.1)) false)
          (some (.ret (false, ()) (x1, ())))
          (bd (F23 k x1) (fun (r1 : ((Bool) × (Unit)) × (Unit)) => (br r1.1.1
            (bd (F24 k x1) (fun (r2 : ((Int) × (Unit)) × (Unit)) => (br (cond false true (r2.1.1 != (0 : Int)))
              (some (.ret (false, ()) (x1, ())))
              (bd (F37 k x1) (fun (r3 : ((Bool) × (Unit)) × (Unit)) => (br (cond false true (cond true (cond false true r3.1.1) false))
                (some (.ret (false, ()) (x1, ())))
                (bd (F23 k x1) (fun (r4 : ((Bool) × (Unit)) × (Unit)) => (L13_0 k s0 s1 m (x0, (x1, (r4.1.1, ((IntKind.wrap (IntKind.i64) (x3 + (1 : Int))), ())))))))))))))
            (bd (F23 k x1) (fun (r2 : ((Bool) × (Unit)) × (Unit)) => (L13_0 k s0 s1 m (x0, (x1, (r2.1.1, ((IntKind.wrap (IntKind.i64) (x3 + (1 : Int))), ())))))))))))))
        (bd (F23 k x1) (fun (r : ((Bool) × (Unit)) × (Unit)) => (br r.1.1
          (bd (F24 k x1) (fun (r1 : ((Int) × (Unit)) × (Unit)) => (br (cond false true (r1.1.1 != (0 : Int)))
            (some (.ret (false, ()) (x1, ())))
            (bd (F37 k x1) (fun (r2 : ((Bool) × (Unit)) × (Unit)) => (br (cond false true (cond true (cond false true r2.1.1) false))
              (some (.ret (false, ()) (x1, ())))
              (bd (F23 k x1) (fun (r3 : ((Bool) × (Unit)) × (Unit)) => (L13_0 k s0 s1 m (x0, (x1, (r3.1.1, ((IntKind.wrap (IntKind.i64) (x3 + (1 : Int))), ())))))))))))))
          (bd (F23 k x1) (fun (r1 : ((Bool) × (Unit)) × (Unit)) => (L13_0 k s0 s1 m (x0, (x1, (r1.1.1, ((IntKind.wrap (IntKind.i64) (x3 + (1 : Int))), ()))))))))))))))
    none)
   (some (.brk (x0, (x1, (x2, (x3, ()))))))) := by kernel_rfl

theorem F13_step (k : Nat) (a0 : List (Int)) (a1 : List ((Int) × ((Int) × (Unit)))) : F13 (k + 1) a0 a1 =
  (bd (F18 k ) (fun (r : ((Bool) × (Unit)) × (Unit)) => (br (!r.1.1)
    (some ((false, ()), ()))
    (br (cond (decide ((((List.length a0) : Nat) : Int) > (5000 : Int))) true (decide ((((List.length a1) : Nat) : Int) > (200 : Int))))
     (some ((true, ()), ()))
     (bd (F21 k a0) (fun (r1 : (((List (Int)) × ((Bool) × (Unit))) × (Unit)) × (Unit)) => (bdL (L13_0 k a1 () k (false, (r1.1.1, (false, ((0 : Int), ())))))
       (fun (b : (Bool) × (((List (Int)) × ((Bool) × (Unit))) × ((Bool) × ((Int) × (Unit))))) => (some ((true, ()), ())))
       (fun (j : Nat) => (fun (b : (Bool) × (((List (Int)) × ((Bool) × (Unit))) × ((Bool) × ((Int) × (Unit))))) => none))
       (fun (q : (Bool) × (Unit)) => (fun (b : ((List (Int)) × ((Bool) × (Unit))) × (Unit)) => (some (q, ()))))))))))) := by kernel_rfl

end Go.Proofs.Ytnffdeokhcojfaa.E

namespace Go.Proofs.Ytnffdeokhcojfaa.E
open Go
set_option linter.unusedSimpArgs false
set_option linter.unusedVariables false

/-! reading the forms -/

theorem br_t {R : Type} {c : Bool} {a b : Option R} (h : c = true) : br c a b = a := by rw [h]; rfl
theorem br_f {R : Type} {c : Bool} {a b : Option R} (h : c = false) : br c a b = b := by rw [h]; rfl
@[simp] theorem br_true {R : Type} {a b : Option R} : br true a b = a := rfl
@[simp] theorem br_false {R : Type} {a b : Option R} : br false a b = b := rfl
@[simp] theorem bd_s {A R : Type} {x : A} {f : A → Option R} : bd (some x) f = f x := rfl
@[simp] theorem bdL_b {Q X B R : Type} {b : X} {f : X → Option R} {g : Nat → X → Option R} {h : Q → B → Option R} : bdL (some (LO.brk b)) f g h = f b := rfl
@[simp] theorem bdL_r {Q X B R : Type} {q : Q} {b : B} {f : X → Option R} {g : Nat → X → Option R} {h : Q → B → Option R} : bdL (some (LO.ret q b)) f g h = h q b := rfl
theorem both_same {R : Type} {A : Option R} : both A A = A := by unfold both; rw [if_pos rfl]
theorem bthN_same {R : Type} {n : Nat} {A : Option R} : bthN n A A = A := by cases n with | zero => exact both_same | succ => rfl
theorem inB_t {i : Int} {n : Nat} (h : 0 ≤ i ∧ i < n) : inB i n = true := inB_iff.2 h
theorem leB_t {i : Int} {n : Nat} (h : 0 ≤ i ∧ i ≤ n) : leB i n = true := leB_iff.2 h
theorem makeB_t {n c : Int} {b : Nat} (h : 0 ≤ n ∧ n ≤ c ∧ c * b ≤ 140737488355328) : makeB n c b = true := makeB_iff.2 h

abbrev Cur := List Int × (Bool × Unit)

/-- bytes -/
def Byt (l : List Int) : Prop := ∀ x ∈ l, 0 ≤ x ∧ x ≤ 255

theorem getD_drop (l : List Int) (i : Nat) (h : i < l.length) : l.drop i = l.getD i 0 :: l.drop (i + 1) := by
  rw [List.drop_eq_getElem_cons h]; simp [List.getD, h]

theorem L20_0_eq (k : Nat) (a b : List Int) (hl : a.length = b.length) (hb : (a.length : Int) ≤ 9223372036854775806) : ∀ (m i : Nat) (x0 : Bool), i ≤ a.length → a.length - i < m →
    L20_0 k a b m (x0, ((i : Int), ())) = if a.drop i = b.drop i then some (.brk (x0, ((a.length : Int), ()))) else some (.ret (false, ()) ())
  | 0, i, x0, h1, h2 => by omega
  | m + 1, i, x0, h1, h2 => by
    rw [L20_0_step]
    by_cases h : i < a.length
    · rw [br_t (by simpa using h), br_t (inB_t ⟨by omega, by simpa using h⟩), br_t (inB_t ⟨by omega, by omega⟩)]
      have hb' : i < b.length := by omega
      rw [getD_drop a i h, getD_drop b i hb']
      simp only [Int.toNat_natCast]
      by_cases he : a.getD i 0 = b.getD i 0
      · rw [br_f (by rw [he]; simp), IntWalk.i64_in _ ⟨by omega, by omega⟩]
        have := L20_0_eq k a b hl hb m (i + 1) x0 (by omega) (by omega)
        rw [show ((i : Int) + 1) = ((i + 1 : Nat) : Int) by omega, this, he]
        simp only [List.cons.injEq, true_and]
      · rw [br_t (by simp only [bne_iff_ne, ne_eq]; exact he), if_neg (by simp only [List.cons.injEq, not_and]; exact fun h => (he h).elim)]
    · have : i = a.length := by omega
      subst this
      rw [br_f (by simp), if_pos (by rw [List.drop_length, hl, List.drop_length])]

theorem F20_eq (k : Nat) (a b : List Int) (hk : a.length < k) (hb : (a.length : Int) ≤ 9223372036854775806) : F20 (k + 1) a b = some ((decide (a = b), ()), ()) := by
  rw [F20_step]
  by_cases hl : a.length = b.length
  · rw [br_f (by simp [hl])]
    have := L20_0_eq k a b hl hb k 0 false (by omega) (by omega)
    simp only [List.drop_zero] at this
    rw [show (0 : Int) = ((0 : Nat) : Int) from rfl, this]
    by_cases he : a = b
    · simp [he]
    · simp [he]
  · rw [br_t (by simp only [bne_iff_ne, ne_eq]; omega)]
    have : a ≠ b := fun h => hl (by rw [h])
    simp [this]

theorem F25_eq (k : Nat) (a : List Int) (h : a.length ≤ 140737488355328) : F25 (k + 1) a = some ((a, ()), ()) := by
  rw [F25_step, br_t (by simpa using h)]; simp

theorem F45_eq (k : Nat) (a : List Int) (h : a.length ≤ 140737488355328) : F45 (k + 1) a = some ((a, ()), ()) := by
  rw [F45_step, br_t (by simpa using h)]
  cases a with
  | nil => exact bthN_same
  | cons x l => rfl

theorem F21_eq (k : Nat) (a : List Int) (h : a.length ≤ 140737488355328) : F21 (k + 2) a = some (((a, (false, ())), ()), ()) := by
  rw [F21_step, F45_eq _ _ h]; rfl

theorem F48_eq (k : Nat) (c : Cur) : F48 (k + 1) c = some ((), (([], (true, ())), ())) := by rw [F48_step]
theorem F53_eq (k : Nat) (c : Cur) : F53 (k + 1) c = some ((), (([], (true, ())), ())) := by rw [F53_step]
theorem F23_eq (k : Nat) (c : Cur) : F23 (k + 1) c = some ((c.2.1, ()), ()) := F23_step k c
theorem F24_eq (k : Nat) (c : Cur) : F24 (k + 1) c = some (((c.1.length : Int), ()), ()) := F24_step k c
theorem F37_eq (k : Nat) (c : Cur) : F37 (k + 1) c = some ((!c.2.1 && decide (c.1.length = 0), ()), ()) := by
  rw [F37_step]
  obtain ⟨l, b, u⟩ := c
  cases b <;> simp
  cases l <;> simp
  omega

/-- so many next bytes -/
def takeC (c : Cur) (n : Int) : List Int × Bool × Cur :=
  if c.2.1 = true ∨ n < 0 ∨ n > c.1.length then ([], false, ([], (true, ()))) else (c.1.take n.toNat, true, (c.1.drop n.toNat, (false, ())))

theorem F50_eq (k : Nat) (c : Cur) (n : Int) : F50 (k + 2) c n = some (((takeC c n).1, ((takeC c n).2.1, ())), ((takeC c n).2.2, ())) := by
  rw [F50_step]
  obtain ⟨l, b, u⟩ := c
  unfold takeC
  simp only [F48_eq, bd_s]
  by_cases h1 : b = true
  · subst h1; simp
  · have hb : b = false := by simpa using h1
    subst hb
    by_cases h2 : n < 0
    · simp [h2]
    · by_cases h3 : n > l.length
      · simp [h2, h3]
      · have e1 : leB n l.length = true := leB_t ⟨by omega, by omega⟩
        have e2 : leB n n.toNat = true := leB_t ⟨by omega, by omega⟩
        simp [h2, h3, e1, e2]

theorem F41_eq (k : Nat) (c : Cur) (n : Int) (hl : c.1.length ≤ 140737488355328) : True := trivial

end Go.Proofs.Ytnffdeokhcojfaa.E

namespace Go.Proofs.Ytnffdeokhcojfaa.E
open Go
set_option linter.unusedSimpArgs false
set_option linter.unusedVariables false

/-- how many bits a number has -/
def bl (n : Nat) : Nat := if n = 0 then 0 else n.log2 + 1

theorem bl_le {n j : Nat} : bl n ≤ j ↔ n < 2 ^ j := by
  unfold bl
  by_cases h : n = 0
  · subst h; simp [Nat.two_pow_pos]
  · rw [if_neg h, ← Nat.log2_lt h]; omega

theorem bl_shift {n c : Nat} (h : 0 < n / 2 ^ c) : bl n = c + bl (n / 2 ^ c) := by
  have hq : n / 2 ^ c < 2 ^ bl (n / 2 ^ c) := bl_le.1 (Nat.le_refl _)
  have hn : n < 2 ^ bl n := bl_le.1 (Nat.le_refl _)
  have hp := Nat.two_pow_pos c
  apply Nat.le_antisymm
  · apply bl_le.2
    rw [Nat.pow_add, Nat.mul_comm]
    exact (Nat.div_lt_iff_lt_mul hp).1 hq
  · have hc : ¬ (bl n ≤ c) := by
      rw [bl_le]
      have := (Nat.le_div_iff_mul_le hp).1 h
      omega
    have : bl (n / 2 ^ c) ≤ bl n - c := by
      apply bl_le.2
      apply (Nat.div_lt_iff_lt_mul hp).2
      rw [← Nat.pow_add]
      rw [show bl n - c + c = bl n by omega]; exact hn
    omega

theorem tab_bl (n : Nat) (h : n < 256) : (UInt8.toNat (List.getD tab0 n (0 : UInt8))) = bl n := by
  have : ((List.range 256).all fun n => (UInt8.toNat (List.getD tab0 n (0 : UInt8))) == bl n) = true := by kernel_rfl
  exact eq_of_beq (List.all_eq_true.1 this n (List.mem_range.2 h))

theorem F56_eq (k n : Nat) (h : n < 256) : F56 (k + 1) (n : Int) = some (((bl n : Int), ()), ()) := by
  have hb : bl n ≤ 8 := bl_le.2 (by omega)
  rw [F56_step, br_t (inB_t ⟨by omega, by omega⟩), Int.toNat_natCast, tab_bl n h, IntWalk.i64_in _ ⟨by omega, by omega⟩]

theorem fdiv_cast (a b : Nat) : Int.fdiv (a : Int) (b : Int) = ((a / b : Nat) : Int) := by
  rw [Int.fdiv_eq_ediv_of_nonneg _ (by omega)]; rfl

theorem look_bl (n c : Nat) (hc : c ≤ 56) (h : n < 256) :
    (some (((IntKind.i64.wrap ((c : Int) + IntKind.i64.wrap (((UInt8.toNat (List.getD tab0 (Int.toNat (IntKind.u8.wrap (n : Int))) (0 : UInt8))) : Nat) : Int))), ()), ()) : Option ((Int × Unit) × Unit)) = some ((((c + bl n : Nat) : Int), ()), ()) := by
  have hb : bl n ≤ 8 := bl_le.2 (by omega)
  rw [IntWalk.u8_in _ ⟨by omega, by omega⟩, Int.toNat_natCast, tab_bl n h, IntWalk.i64_in (bl n : Int) ⟨by omega, by omega⟩, IntWalk.i64_in _ ⟨by omega, by omega⟩]
  simp

theorem F58_eq (k n : Nat) (h : n < 18446744073709551616) : F58 (k + 1) (n : Int) = some (((bl n : Int), ()), ()) := by
  rw [F58_step]
  have e1 : Int.fdiv (n : Int) 4294967296 = ((n / 4294967296 : Nat) : Int) := fdiv_cast n 4294967296
  have e2 : Int.fdiv (n : Int) 65536 = ((n / 65536 : Nat) : Int) := fdiv_cast n 65536
  have e3 : Int.fdiv (n : Int) 256 = ((n / 256 : Nat) : Int) := fdiv_cast n 256
  have e4 : ∀ m : Nat, Int.fdiv (m : Int) 65536 = ((m / 65536 : Nat) : Int) := fun m => fdiv_cast m 65536
  have e5 : ∀ m : Nat, Int.fdiv (m : Int) 256 = ((m / 256 : Nat) : Int) := fun m => fdiv_cast m 256
  simp only [e1, e4, e5]
  have fin : ∀ (q c : Nat), q < 256 → c ≤ 56 → bl n = c + bl q → ∀ (C : Int), C = (c : Int) → br (inB (IntKind.u8.wrap (q : Int)) 256)
      (some (((IntKind.i64.wrap (C + IntKind.i64.wrap (((UInt8.toNat (List.getD tab0 (Int.toNat (IntKind.u8.wrap (q : Int))) (0 : UInt8))) : Nat) : Int))), ()), ()) : Option ((Int × Unit) × Unit)) none = some (((bl n : Int), ()), ()) := by
    rintro q c hq hc hb C rfl
    rw [br_t (inB_t (by rw [IntWalk.u8_in _ ⟨by omega, by omega⟩]; omega)), look_bl q c hc hq, hb]
  by_cases h1 : 4294967296 ≤ n
  · rw [br_t (by simp; omega)]
    by_cases h2 : 65536 ≤ n / 4294967296
    · rw [br_t (by simp; omega)]
      by_cases h3 : 256 ≤ n / 4294967296 / 65536
      · rw [br_t (by simp; omega)]
        refine fin _ 56 (by omega) (by omega) ?_ _ rfl
        rw [show n / 4294967296 / 65536 / 256 = n / 2 ^ 56 by omega]
        exact bl_shift (by omega)
      · rw [br_f (by simp; omega)]
        refine fin _ 48 (by omega) (by omega) ?_ _ rfl
        rw [show n / 4294967296 / 65536 = n / 2 ^ 48 by omega]
        exact bl_shift (by omega)
    · rw [br_f (by simp; omega)]
      by_cases h3 : 256 ≤ n / 4294967296
      · rw [br_t (by simp; omega)]
        refine fin _ 40 (by omega) (by omega) ?_ _ rfl
        rw [show n / 4294967296 / 256 = n / 2 ^ 40 by omega]
        exact bl_shift (by omega)
      · rw [br_f (by simp; omega)]
        refine fin _ 32 (by omega) (by omega) ?_ _ rfl
        rw [show n / 4294967296 = n / 2 ^ 32 by omega]
        exact bl_shift (by omega)
  · rw [br_f (by simp; omega)]
    by_cases h2 : 65536 ≤ n
    · rw [br_t (by simp; omega)]
      by_cases h3 : 256 ≤ n / 65536
      · rw [br_t (by simp; omega)]
        refine fin _ 24 (by omega) (by omega) ?_ _ rfl
        rw [show n / 65536 / 256 = n / 2 ^ 24 by omega]
        exact bl_shift (by omega)
      · rw [br_f (by simp; omega)]
        refine fin _ 16 (by omega) (by omega) ?_ _ rfl
        rw [show n / 65536 = n / 2 ^ 16 by omega]
        exact bl_shift (by omega)
    · rw [br_f (by simp; omega)]
      by_cases h3 : 256 ≤ n
      · rw [br_t (by simp; omega)]
        refine fin _ 8 (by omega) (by omega) ?_ _ rfl
        rw [show n / 256 = n / 2 ^ 8 by omega]
        exact bl_shift (by omega)
      · rw [br_f (by simp; omega)]
        exact fin _ 0 (by omega) (by omega) (by simp) _ rfl

theorem F55_eq (k n : Nat) (h : n < 18446744073709551616) : F55 (k + 2) (n : Int) = some (((bl n : Int), ()), ()) := by
  rw [F55_step, F58_eq _ _ h]; rfl

/-- how many bytes a number has -/
def sz (n : Nat) : Nat := max 1 ((bl n + 6) / 7)

theorem sz_le {n j : Nat} (hj : 1 ≤ j) : sz n ≤ j ↔ n < 2 ^ (7 * j) := by
  unfold sz
  rw [← bl_le]; omega

theorem sz_pos (n : Nat) : 1 ≤ sz n := by unfold sz; omega

theorem F47_eq (k n : Nat) (h : n < 9223372036854775808) : F47 (k + 3) (n : Int) = some (((sz n : Int), ()), ()) := by
  have hb : bl n ≤ 64 := bl_le.2 (by omega)
  rw [F47_step, IntWalk.u64_in _ ⟨by omega, by omega⟩, F55_eq _ _ (by omega)]
  simp only [bd_s]
  have e : IntKind.i64.wrap (Int.tdiv (IntKind.i64.wrap ((IntKind.i64.wrap ((bl n : Int) + 7)) - 1)) 7) = (((bl n + 6) / 7 : Nat) : Int) := by
    rw [IntWalk.i64_in ((bl n : Int) + 7) ⟨by omega, by omega⟩, IntWalk.i64_in ((bl n : Int) + 7 - 1) ⟨by omega, by omega⟩]
    rw [IntWalk.i64_quo _ _ ⟨by omega, by omega, by omega⟩]; omega
  simp only [e]
  unfold sz
  congr 3
  split <;> omega

theorem F49_eq (k n : Nat) (h : n < 256) : F49 (k + 2) (n : Int) = some ((((8 - bl n : Nat) : Int), ()), ()) := by
  have hb : bl n ≤ 8 := bl_le.2 (by omega)
  rw [F49_step, F56_eq _ _ h]
  simp only [bd_s]
  rw [IntWalk.i64_in _ ⟨by omega, by omega⟩]
  congr 3; omega

end Go.Proofs.Ytnffdeokhcojfaa.E

namespace Go.Proofs.Ytnffdeokhcojfaa.E
open Go
set_option linter.unusedSimpArgs false
set_option linter.unusedVariables false

/-- a number's byte at a place, of K -/
def dg (n K j : Nat) : Nat := n / 2 ^ (8 * (K - 1 - j)) % 256

/-- the ones ahead -/
def mask (K : Nat) : Nat := 256 - 2 ^ (9 - K)

/-- a right number's bytes -/
def putL (n : Nat) : List Int := (List.range (sz n)).map fun j => ((dg n (sz n) j + (if j = 0 then mask (sz n) else 0) : Nat) : Int)

theorem pow_shr (x c : Nat) (hc : c ≤ 63) : Int.fdiv (x : Int) ((2 : Int) ^ (Min.min (Int.toNat (c : Int)) 64)) = ((x / 2 ^ c : Nat) : Int) := by
  rw [Int.toNat_natCast, show min c 64 = c by omega]
  have : ((2 : Int) ^ c) = ((2 ^ c : Nat) : Int) := by simp
  rw [this, fdiv_cast]

theorem L19_0_eq (k n K : Nat) (hK : K ≤ 8) : ∀ (r m : Nat) (l : List Int), r ≤ K → r < m → l.length = K →
    L19_0 k (n : Int) (K : Int) () (K : Int) m (l, (((K - r : Nat) : Int), ())) = some (.brk ((List.range r).map (fun j => ((dg n K j : Nat) : Int)) ++ l.drop r, ((K : Int), ())))
  | _, 0, _, _, h, _ => by omega
  | 0, m + 1, l, h1, h2, h3 => by
    rw [L19_0_step, br_f (by simp)]; simp
  | r + 1, m + 1, l, h1, h2, h3 => by
    rw [L19_0_step, br_t (by simp; omega)]
    have e1 : IntKind.i64.wrap ((8 : Int) * ((K - (r + 1) : Nat) : Int)) = ((8 * (K - (r + 1)) : Nat) : Int) := by
      rw [IntWalk.i64_in _ ⟨by omega, by omega⟩]; omega
    have e2 : IntKind.i64.wrap ((IntKind.i64.wrap ((K : Int) - 1)) - ((K - (r + 1) : Nat) : Int)) = (r : Int) := by
      rw [IntWalk.i64_in ((K : Int) - 1) ⟨by omega, by omega⟩, IntWalk.i64_in _ ⟨by omega, by omega⟩]; omega
    rw [e1, e2, br_t (by simp; omega), br_t (inB_t ⟨by omega, by omega⟩), pow_shr _ _ (by omega), IntKind.wrap_u8, Int.toNat_natCast]
    rw [IntWalk.i64_in _ ⟨by omega, by omega⟩]
    have e3 : ((K - (r + 1) : Nat) : Int) + 1 = ((K - r : Nat) : Int) := by omega
    rw [e3]
    have := L19_0_eq k n K hK r m (l.set r (((n / 2 ^ (8 * (K - (r + 1))) : Nat) : Int) % 256)) (by omega) (by omega) (by simpa using h3)
    rw [this]
    congr 3
    rw [List.range_succ, List.map_append, List.append_assoc]
    congr 1
    have hd : dg n K r = n / 2 ^ (8 * (K - (r + 1))) % 256 := by unfold dg; rw [show K - 1 - r = K - (r + 1) by omega]
    rw [List.drop_eq_getElem_cons (by simp; omega)]
    simp [hd, List.drop_set_of_lt]

theorem top_lt {n K : Nat} (h1 : 1 ≤ K) (h8 : K ≤ 7) (hn : n < 2 ^ (7 * K)) : n / 2 ^ (8 * (K - 1)) < 2 ^ (8 - K) := by
  apply (Nat.div_lt_iff_lt_mul (Nat.two_pow_pos _)).2
  rw [← Nat.pow_add, show 8 - K + 8 * (K - 1) = 7 * K by omega]
  exact hn

theorem or_mask (K h : Nat) (h1 : 1 ≤ K) (h8 : K ≤ 7) (hh : h < 2 ^ (8 - K)) :
    IntKind.u8.wrap (((BitVec.toNat ((BitVec.ofInt (8 : Nat) (h : Int)) ||| (BitVec.ofInt (8 : Nat) (IntKind.u8.wrap (((BitVec.toNat ((BitVec.ofInt (8 : Nat) (255 : Int)) ^^^ (BitVec.ofInt (8 : Nat) ((255 / 2 ^ (K - 1) : Nat) : Int)))) : Nat) : Int))))) : Nat) : Int) = ((h + mask K : Nat) : Int) := by
  have key : ((List.range 8).all fun K => (List.range 128).all fun h => !(Nat.ble 1 K && Nat.blt h (2 ^ (8 - K))) ||
      (decide (IntKind.u8.wrap (((BitVec.toNat ((BitVec.ofInt (8 : Nat) (h : Int)) ||| (BitVec.ofInt (8 : Nat) (IntKind.u8.wrap (((BitVec.toNat ((BitVec.ofInt (8 : Nat) (255 : Int)) ^^^ (BitVec.ofInt (8 : Nat) ((255 / 2 ^ (K - 1) : Nat) : Int)))) : Nat) : Int))))) : Nat) : Int) = ((h + mask K : Nat) : Int)))) = true := by kernel_rfl
  have hlt : h < 128 := Nat.lt_of_lt_of_le hh (by
    have : 2 ^ (8 - K) ≤ 2 ^ 7 := Nat.pow_le_pow_right (by omega) (by omega)
    simpa using this)
  have := List.all_eq_true.1 (List.all_eq_true.1 key K (List.mem_range.2 (by omega))) h (List.mem_range.2 hlt)
  simp only [Bool.or_eq_true, Bool.not_eq_true', decide_eq_true_eq] at this
  rcases this with this | this
  · have e1 : Nat.ble 1 K = true := Nat.ble_eq_true_of_le h1
    have e2 : Nat.blt h (2 ^ (8 - K)) = true := by simpa [Nat.blt_eq] using hh
    simp [e1, e2] at this
  · exact this

def most : Nat := 562949953421311

theorem sz_most {n : Nat} (h : n ≤ most) : sz n ≤ 7 := (sz_le (by omega)).2 (by unfold most at h; omega)

theorem putL_cons (n : Nat) : putL n = ((dg n (sz n) 0 + mask (sz n) : Nat) : Int) :: ((List.range (sz n - 1)).map fun j => ((dg n (sz n) (j + 1) : Nat) : Int)) := by
  unfold putL
  have hp := sz_pos n
  obtain ⟨K, hK⟩ : ∃ K, sz n = K + 1 := ⟨sz n - 1, by omega⟩
  rw [hK]
  rw [List.range_succ_eq_map]
  simp [Function.comp_def]

theorem F19_eq (k n : Nat) (hn : n ≤ most) : F19 (k + 12) (n : Int) = some ((putL n, (true, ())), ()) := by
  have h7 := sz_most hn
  have hp := sz_pos n
  have hm : n ≤ 562949953421311 := hn
  rw [F19_step, br_f (by simp; omega), F47_eq _ _ (by omega)]
  simp only [bd_s]
  rw [br_t (makeB_t ⟨by omega, by omega, by omega⟩)]
  simp only [List.length_replicate, Int.toNat_natCast]
  have hl : L19_0 (k + 11) (n : Int) (sz n : Int) () (sz n : Int) (k + 11) (List.replicate (sz n) 0, ((0 : Int), ())) = some (.brk ((List.range (sz n)).map (fun j => ((dg n (sz n) j : Nat) : Int)) ++ (List.replicate (sz n) 0).drop (sz n), ((sz n : Int), ()))) := by
    have := L19_0_eq (k + 11) n (sz n) (by omega) (sz n) (k + 11) (List.replicate (sz n) 0) (Nat.le_refl _) (by omega) (by simp)
    rw [Nat.sub_self] at this
    exact this
  rw [hl]
  simp only [bdL_b, List.drop_replicate, Nat.sub_self, List.replicate_zero, List.append_nil]
  obtain ⟨K, hK⟩ : ∃ K, sz n = K + 1 := ⟨sz n - 1, by omega⟩
  have hlen : ((List.range (sz n)).map (fun j => ((dg n (sz n) j : Nat) : Int))).length = sz n := by simp
  rw [br_t (inB_t ⟨by simp, by rw [hlen]; omega⟩), IntWalk.i64_in _ ⟨by omega, by omega⟩, br_t (by simp; omega), br_t (inB_t ⟨by simp, by rw [hlen]; omega⟩)]
  have hmin : (2 : Int) ^ (Min.min (Int.toNat ((sz n : Int) - 1)) 8) = ((2 ^ (sz n - 1) : Nat) : Int) := by
    rw [show ((sz n : Int) - 1) = ((sz n - 1 : Nat) : Int) by omega, Int.toNat_natCast, show min (sz n - 1) 8 = sz n - 1 by omega]; simp
  rw [hmin, show (255 : Int) = ((255 : Nat) : Int) from rfl, fdiv_cast]
  have hd0 : List.getD ((List.range (sz n)).map (fun j => ((dg n (sz n) j : Nat) : Int))) 0 (0 : Int) = ((dg n (sz n) 0 : Nat) : Int) := by
    rw [hK]; simp [List.range_succ_eq_map]
  rw [hd0]
  have ht : dg n (sz n) 0 < 2 ^ (8 - sz n) := by
    unfold dg
    have := top_lt hp h7 ((sz_le hp).1 (Nat.le_refl _))
    rw [Nat.sub_zero]
    exact Nat.lt_of_le_of_lt (Nat.mod_le _ _) this
  have := or_mask (sz n) _ hp h7 ht
  simp only [show ((255 : Nat) : Int) = 255 from rfl] at this ⊢
  rw [this, putL_cons]
  congr 4
  rw [hK]
  simp [List.range_succ_eq_map, Function.comp_def]

theorem F19_no (k : Nat) (n : Int) (hn : n < 0 ∨ n > 562949953421311) : F19 (k + 1) n = some (([], (false, ())), ()) := by
  rw [F19_step, br_t]
  rcases hn with h | h
  · simp [h]
  · by_cases h0 : n < 0 <;> simp [h, h0]

end Go.Proofs.Ytnffdeokhcojfaa.E

namespace Go.Proofs.Ytnffdeokhcojfaa.E
open Go
set_option linter.unusedSimpArgs false
set_option linter.unusedVariables false

theorem p128 (j : Nat) : (128 : Nat) ^ j = 2 ^ (7 * j) := by rw [show (128 : Nat) = 2 ^ 7 from rfl, ← Nat.pow_mul]

theorem L33_0_eq (k n : Nat) (hn : n ≤ most) : ∀ (m j : Nat), 1 ≤ j → j ≤ sz n → sz n - j < m →
    L33_0 k (n : Int) m ((j : Int), (((128 ^ j : Nat) : Int), ())) = some (.brk ((sz n : Int), (((128 ^ sz n : Nat) : Int), ())))
  | 0, j, h1, h2, h3 => by omega
  | m + 1, j, h1, h2, h3 => by
    have h7 := sz_most hn
    have hm : n ≤ 562949953421311 := hn
    rw [L33_0_step]
    by_cases h : j < sz n
    · have hge : 128 ^ j ≤ n := by
        rw [p128]
        have h' : ¬ n < 2 ^ (7 * j) := fun hh => by have := (sz_le (n := n) h1).2 hh; omega
        omega
      have hle : 128 ^ j ≤ 128 ^ 6 := Nat.pow_le_pow_right (by omega) (by omega)
      have hs : 128 ^ (j + 1) = 128 ^ j * 128 := Nat.pow_succ ..
      rw [br_t (decide_eq_true (by omega)), IntWalk.i64_in _ ⟨by omega, by omega⟩, IntWalk.i64_in _ ⟨by omega, by omega⟩]
      have := L33_0_eq k n hn m (j + 1) (by omega) (by omega) (by omega)
      rw [show ((j : Int) + 1) = ((j + 1 : Nat) : Int) by omega, show (((128 ^ j : Nat) : Int) * 128) = ((128 ^ (j + 1) : Nat) : Int) by rw [hs]; omega]
      exact this
    · have hj : j = sz n := by omega
      subst hj
      have : n < 128 ^ sz n := by rw [p128]; exact (sz_le (sz_pos n)).1 (Nat.le_refl _)
      rw [br_f (decide_eq_false (by omega))]

theorem L33_2_eq (k n K : Nat) (hn : n ≤ most) (hK : K ≤ 8) : ∀ (r m : Nat) (l : List Int), r ≤ K → r < m → l.length = K →
    L33_2 k () m (((n / 2 ^ (8 * (K - r)) : Nat) : Int), (l, ((r : Int) - 1, ()))) = some (.brk (((n / 2 ^ (8 * K) : Nat) : Int), ((List.range r).map (fun j => ((dg n K j : Nat) : Int)) ++ l.drop r, (-1, ()))))
  | _, 0, _, _, h, _ => by omega
  | 0, m + 1, l, h1, h2, h3 => by
    rw [L33_2_step, br_f (by simp)]; simp
  | r + 1, m + 1, l, h1, h2, h3 => by
    have hm : n ≤ 562949953421311 := hn
    have hq : n / 2 ^ (8 * (K - (r + 1))) ≤ n := Nat.div_le_self _ _
    have e0 : n / 2 ^ (8 * (K - r)) = n / 2 ^ (8 * (K - (r + 1))) / 256 := by
      rw [show 8 * (K - r) = 8 * (K - (r + 1)) + 8 by omega, Nat.pow_add, ← Nat.div_div_eq_div_mul]
    have hd : dg n K r = n / 2 ^ (8 * (K - (r + 1))) % 256 := by unfold dg; rw [show K - 1 - r = K - (r + 1) by omega]
    generalize n / 2 ^ (8 * (K - (r + 1))) = q at *
    rw [L33_2_step, br_t (decide_eq_true (by omega)), br_t (inB_t ⟨by omega, by omega⟩)]
    rw [IntWalk.i64_quo _ _ ⟨by omega, by omega, by omega⟩, IntKind.wrap_u8]
    rw [Int.tmod_eq_emod_of_nonneg (by omega), IntWalk.i64_in _ ⟨by omega, by omega⟩]
    have e1 : ((q : Int) / 256) = ((n / 2 ^ (8 * (K - r)) : Nat) : Int) := by rw [e0]; omega
    rw [e1]
    have e2 : (((r + 1 : Nat) : Int) - 1).toNat = r := by omega
    rw [e2, show (((r + 1 : Nat) : Int) - 1 - 1) = (r : Int) - 1 by omega]
    have := L33_2_eq k n K hn hK r m (l.set r ((q : Int) % 256 % 256)) (by omega) (by omega) (by simpa using h3)
    rw [this]
    congr 4
    rw [List.range_succ, List.map_append, List.append_assoc]
    congr 1
    rw [List.drop_eq_getElem_cons (by simp; omega)]
    simp [hd, List.drop_set_of_lt]

theorem ones_eq (i : Nat) (h : i ≤ 6) : IntKind.i64.wrap ((((256 - 2 ^ (8 - i) : Nat) : Int)) + (Int.fdiv (128 : Int) ((2 : Int) ^ (Min.min (Int.toNat (IntKind.wrap (IntKind.u64) (i : Int))) 64)))) = ((256 - 2 ^ (8 - (i + 1)) : Nat) : Int) := by
  have key : ((List.range 7).all fun i => decide (IntKind.i64.wrap ((((256 - 2 ^ (8 - i) : Nat) : Int)) + (Int.fdiv (128 : Int) ((2 : Int) ^ (Min.min (Int.toNat (IntKind.wrap (IntKind.u64) (i : Int))) 64)))) = ((256 - 2 ^ (8 - (i + 1)) : Nat) : Int))) = true := by kernel_rfl
  simpa using List.all_eq_true.1 key i (List.mem_range.2 (by omega))

theorem L33_4_eq (k K : Nat) (h1 : 1 ≤ K) (hK : K ≤ 7) : ∀ (m i : Nat), i ≤ K - 1 → K - 1 - i < m →
    L33_4 k (K : Int) m (((256 - 2 ^ (8 - i) : Nat) : Int), ((i : Int), ())) = some (.brk (((mask K : Nat) : Int), (((K - 1 : Nat) : Int), ())))
  | 0, i, h2, h3 => by omega
  | m + 1, i, h2, h3 => by
    rw [L33_4_step, IntWalk.i64_in ((K : Int) - 1) ⟨by omega, by omega⟩]
    by_cases h : i < K - 1
    · rw [br_t (by simp; omega), br_t (by rw [IntWalk.u64_in _ ⟨by omega, by omega⟩]; simp), ones_eq i (by omega), IntWalk.i64_in _ ⟨by omega, by omega⟩]
      have := L33_4_eq k K h1 hK m (i + 1) (by omega) (by omega)
      rw [show ((i : Int) + 1) = ((i + 1 : Nat) : Int) by omega]
      exact this
    · have : i = K - 1 := by omega
      subst this
      rw [br_f (by simp; omega)]
      unfold mask
      rw [show 8 - (K - 1) = 9 - K by omega]

theorem F33_eq (k n : Nat) (hn : n ≤ most) : F33 (k + 12) (n : Int) = some ((putL n, (true, ())), ()) := by
  have h7 := sz_most hn
  have hp := sz_pos n
  have hm : n ≤ 562949953421311 := hn
  rw [F33_step, br_f (by simp; omega)]
  have h0 : L33_0 (k + 11) (n : Int) (k + 11) ((1 : Int), ((128 : Int), ())) = some (.brk ((sz n : Int), (((128 ^ sz n : Nat) : Int), ()))) := L33_0_eq (k + 11) n hn (k + 11) 1 (Nat.le_refl _) hp (by omega)
  rw [h0]
  simp only [bdL_b]
  rw [br_t (makeB_t ⟨by omega, by omega, by omega⟩), Int.toNat_natCast, IntWalk.i64_in ((sz n : Int) - 1) ⟨by omega, by omega⟩]
  have h2 := L33_2_eq (k + 11) n (sz n) hn (by omega) (sz n) (k + 11) (List.replicate (sz n) 0) (Nat.le_refl _) (by omega) (by simp)
  rw [Nat.sub_self, Nat.mul_zero, Nat.pow_zero, Nat.div_one] at h2
  rw [h2]
  simp only [bdL_b, List.drop_replicate, Nat.sub_self, List.replicate_zero, List.append_nil]
  have h4 : L33_4 (k + 11) (sz n : Int) (k + 11) ((0 : Int), ((0 : Int), ())) = some (.brk (((mask (sz n) : Nat) : Int), (((sz n - 1 : Nat) : Int), ()))) := L33_4_eq (k + 11) (sz n) hp h7 (k + 11) 0 (by omega) (by omega)
  rw [h4, bdL_b]
  dsimp only
  have hlen : ((List.range (sz n)).map (fun j => ((dg n (sz n) j : Nat) : Int))).length = sz n := by simp
  obtain ⟨K, hK⟩ : ∃ K, sz n = K + 1 := ⟨sz n - 1, by omega⟩
  rw [br_t (inB_t ⟨by simp, by rw [hlen]; omega⟩), br_t (inB_t ⟨by simp, by rw [hlen]; omega⟩)]
  have hd0 : List.getD ((List.range (sz n)).map (fun j => ((dg n (sz n) j : Nat) : Int))) 0 (0 : Int) = ((dg n (sz n) 0 : Nat) : Int) := by
    rw [hK]; simp [List.range_succ_eq_map]
  have ht : dg n (sz n) 0 < 2 ^ (8 - sz n) := by
    unfold dg
    have := top_lt hp h7 ((sz_le hp).1 (Nat.le_refl _))
    rw [Nat.sub_zero]
    exact Nat.lt_of_le_of_lt (Nat.mod_le _ _) this
  have hmk : dg n (sz n) 0 + mask (sz n) ≤ 255 ∧ mask (sz n) ≤ 255 := by
    unfold mask
    have e : 2 ^ (9 - sz n) = 2 * 2 ^ (8 - sz n) := by rw [show 9 - sz n = (8 - sz n) + 1 by omega, Nat.pow_succ]; omega
    have e2 : 2 ^ (8 - sz n) ≤ 2 ^ 7 := Nat.pow_le_pow_right (by omega) (by omega)
    have e3 := Nat.two_pow_pos (8 - sz n)
    omega
  rw [hd0, IntWalk.u8_in (mask (sz n) : Int) ⟨by omega, by omega⟩, IntWalk.u8_in _ ⟨by omega, by omega⟩, putL_cons]
  congr 4
  rw [hK]
  simp [List.range_succ_eq_map, Function.comp_def]

theorem F33_no (k : Nat) (n : Int) (hn : n < 0 ∨ n > 562949953421311) : F33 (k + 1) n = some (([], (false, ())), ()) := by
  rw [F33_step, br_t]
  rcases hn with h | h
  · simp [h]
  · by_cases h0 : n < 0 <;> simp [h, h0]

def nums (s : List UInt8) : List Int := s.map fun c => ((c.toNat : Nat) : Int)

theorem putL_len (n : Nat) : (putL n).length = sz n := by simp [putL]

theorem F34_eq (k : Nat) (s : List UInt8) (h : s.length ≤ 20000) : F34 (k + 13) s = some ((putL s.length ++ nums s, ()), ()) := by
  have hm : s.length ≤ most := by unfold most; omega
  have h7 := sz_most hm
  rw [F34_step, F19_eq _ _ hm]
  simp only [bd_s]
  rw [br_t (by simp [putL_len]; omega)]
  rfl

theorem L35_0_eq (k : Nat) (s : List UInt8) (hs : s.length ≤ 20000) : ∀ (m i : Nat) (l : List Int), i ≤ s.length → s.length - i < m → l.length ≤ 7 + i →
    L35_0 k s m (l, ((i : Int), ())) = some (.brk (l ++ nums (s.drop i), ((s.length : Int), ())))
  | 0, i, l, h1, h2, h3 => by omega
  | m + 1, i, l, h1, h2, h3 => by
    rw [L35_0_step]
    by_cases h : i < s.length
    · rw [br_t (by simp; omega), br_t (inB_t ⟨by omega, by omega⟩), br_t (by simp; omega), IntWalk.i64_in _ ⟨by omega, by omega⟩]
      have := L35_0_eq k s hs m (i + 1) (l ++ [((UInt8.toNat (List.getD s (Int.toNat (i : Int)) (0 : UInt8)) : Nat) : Int)]) (by omega) (by omega) (by simp; omega)
      rw [show ((i : Int) + 1) = ((i + 1 : Nat) : Int) by omega, this]
      have e : nums (s.drop i) = (((List.getD s i 0).toNat : Nat) : Int) :: nums (s.drop (i + 1)) := by
        rw [List.drop_eq_getElem_cons h]
        simp only [nums, List.map_cons]
        simp [List.getD, h]
      rw [e, Int.toNat_natCast, List.append_assoc]; rfl
    · have : i = s.length := by omega
      subst this
      rw [br_f (by simp)]
      simp [nums]

theorem F35_eq (k : Nat) (s : List UInt8) (h : s.length ≤ 20000) (hk : s.length < k) : F35 (k + 13) s = some ((putL s.length ++ nums s, ()), ()) := by
  have hm : s.length ≤ most := by unfold most; omega
  have h7 := sz_most hm
  rw [F35_step, F33_eq _ _ hm]
  simp only [bd_s]
  have : L35_0 (k + 12) s (k + 12) (putL s.length, ((0 : Int), ())) = some (.brk (putL s.length ++ nums (s.drop 0), ((s.length : Int), ()))) := L35_0_eq (k + 12) s h (k + 12) 0 (putL s.length) (by omega) (by omega) (by rw [putL_len]; omega)
  rw [this]
  rfl

end Go.Proofs.Ytnffdeokhcojfaa.E

namespace Go.Proofs.Ytnffdeokhcojfaa.E
open Go
set_option linter.unusedSimpArgs false
set_option linter.unusedVariables false

/-- how many bytes a number has that begins so -/
def ldK (b : Nat) : Nat := 9 - bl (255 - b)

/-- the bytes of a number behind the first -/
def val (n : Int) (l : List Int) : Int := l.foldl (fun n x => n * 256 + x) n

def lost : Cur := ([], (true, ()))

/-- the next number -/
def numC (c : Cur) (lim : Int) : Int × Cur :=
  match c.1 with
  | [] => (0, lost)
  | b :: l => if c.2.1 = true ∨ ldK b.toNat > 7 ∨ ldK b.toNat > l.length + 1 then (0, lost)
    else
      let K := ldK b.toNat
      let n := val (b % 2 ^ (8 - K)) (l.take (K - 1))
      if sz n.toNat ≠ K ∨ n > lim then (0, lost) else (n, (l.drop (K - 1), (false, ())))

theorem ldK_range (b : Nat) (h : b < 256) : 1 ≤ ldK b ∧ ldK b ≤ 9 := by
  have : bl (255 - b) ≤ 8 := bl_le.2 (by omega)
  unfold ldK; omega

theorem xor_255 (b : Nat) (h : b < 256) : IntKind.u8.wrap (((BitVec.toNat ((BitVec.ofInt (8 : Nat) (255 : Int)) ^^^ (BitVec.ofInt (8 : Nat) (b : Int)))) : Nat) : Int) = ((255 - b : Nat) : Int) := by
  have key : ((List.range 256).all fun b => decide (IntKind.u8.wrap (((BitVec.toNat ((BitVec.ofInt (8 : Nat) (255 : Int)) ^^^ (BitVec.ofInt (8 : Nat) (b : Int)))) : Nat) : Int) = ((255 - b : Nat) : Int))) = true := by kernel_rfl
  simpa using List.all_eq_true.1 key b (List.mem_range.2 h)

theorem and_low (b K : Nat) (h : b < 256) (hK : K ≤ 7) :
    IntKind.i64.wrap (IntKind.u8.wrap (((BitVec.toNat ((BitVec.ofInt (8 : Nat) (b : Int)) &&& (BitVec.ofInt (8 : Nat) ((255 / 2 ^ K : Nat) : Int)))) : Nat) : Int)) = ((b % 2 ^ (8 - K) : Nat) : Int) := by
  have key : ((List.range 8).all fun K => (List.range 256).all fun b => decide (IntKind.i64.wrap (IntKind.u8.wrap (((BitVec.toNat ((BitVec.ofInt (8 : Nat) (b : Int)) &&& (BitVec.ofInt (8 : Nat) ((255 / 2 ^ K : Nat) : Int)))) : Nat) : Int)) = ((b % 2 ^ (8 - K) : Nat) : Int))) = true := by kernel_rfl
  simpa using List.all_eq_true.1 (List.all_eq_true.1 key K (List.mem_range.2 (by omega))) b (List.mem_range.2 h)

theorem or_byte (a x : Nat) (ha : a < 36028797018963968) (hx : x < 256) :
    IntKind.i64.wrap (((BitVec.toNat ((BitVec.ofInt (64 : Nat) (IntKind.i64.wrap ((a : Int) * 256))) ||| (BitVec.ofInt (64 : Nat) (IntKind.i64.wrap (x : Int))))) : Nat) : Int) = ((a * 256 + x : Nat) : Int) := by
  rw [IntWalk.i64_in ((a : Int) * 256) ⟨by omega, by omega⟩, IntWalk.i64_in (x : Int) ⟨by omega, by omega⟩]
  rw [show ((a : Int) * 256) = ((a * 256 : Nat) : Int) by omega, BitVec.ofInt_natCast, BitVec.ofInt_natCast, BitVec.toNat_or, BitVec.toNat_ofNat, BitVec.toNat_ofNat, Nat.mod_eq_of_lt (by omega), Nat.mod_eq_of_lt (by omega)]
  have : a * 256 ||| x = a * 256 + x := by
    have := Nat.two_pow_add_eq_or_of_lt (i := 8) (b := x) (by omega) a
    rw [Nat.mul_comm a 256]; exact this.symm
  rw [this, IntWalk.i64_in _ ⟨by omega, by omega⟩]

theorem val_bd : ∀ (l : List Int) (n : Int) (B : Nat), Byt l → 0 ≤ n → n < B → 0 ≤ val n l ∧ val n l < ((B * 256 ^ l.length : Nat) : Int)
  | [], n, B, _, h0, h1 => by simpa [val] using ⟨h0, h1⟩
  | x :: l, n, B, hb, h0, h1 => by
    have hx := hb x (by simp)
    have := val_bd l (n * 256 + x) (B * 256) (fun y hy => hb y (by simp [hy])) (by omega) (by omega)
    rw [List.length_cons, Nat.pow_succ, Nat.mul_comm (256 ^ l.length) 256, ← Nat.mul_assoc]
    exact this

theorem L22_0_eq (k : Nat) (l : List Int) (hb : Byt l) (hl : l.length ≤ 6) : ∀ (m i : Nat) (n : Int), i ≤ l.length → l.length - i < m → 0 ≤ n → n < ((128 * 256 ^ i : Nat) : Int) →
    L22_0 k l (l.length : Int) m (n, ((i : Int), ())) = some (.brk (val n (l.drop i), ((l.length : Int), ())))
  | 0, i, n, h1, h2, h3, h4 => by omega
  | m + 1, i, n, h1, h2, h3, h4 => by
    rw [L22_0_step]
    by_cases h : i < l.length
    · have hx := hb (l.getD i 0) (by simp [List.getD, h])
      have hp : 256 ^ i ≤ 256 ^ 5 := Nat.pow_le_pow_right (by omega) (by omega)
      have hs : 256 ^ (i + 1) = 256 ^ i * 256 := Nat.pow_succ ..
      rw [br_t (by simp; omega), br_t (inB_t ⟨by omega, by omega⟩), Int.toNat_natCast, getD_drop l i h]
      generalize hg : l.getD i 0 = x at *
      have e : IntKind.i64.wrap (((BitVec.toNat ((BitVec.ofInt (64 : Nat) (IntKind.i64.wrap (n * 256))) ||| (BitVec.ofInt (64 : Nat) (IntKind.i64.wrap x)))) : Nat) : Int) = n * 256 + x := by
        have := or_byte n.toNat x.toNat (by omega) (by omega)
        rw [show ((n.toNat : Nat) : Int) = n by omega, show ((x.toNat : Nat) : Int) = x by omega] at this
        rw [this]; omega
      rw [e, IntWalk.i64_in _ ⟨by omega, by omega⟩]
      have := L22_0_eq k l hb hl m (i + 1) (n * 256 + x) (by omega) (by omega) (by omega) (by omega)
      rw [show ((i : Int) + 1) = ((i + 1 : Nat) : Int) by omega, this]
      rfl
    · have : i = l.length := by omega
      subst this
      rw [br_f (by simp)]
      simp [val]

theorem sz_K {n : Nat} {K : Nat} (h : n < 2 ^ (7 * K)) (hK : 1 ≤ K) (h7 : K ≤ 7) : n ≤ most ∧ sz n ≤ K := by
  refine ⟨?_, (sz_le hK).2 h⟩
  have : 2 ^ (7 * K) ≤ 2 ^ 49 := Nat.pow_le_pow_right (by omega) (by omega)
  unfold most; omega

theorem val_K {b : Nat} {l : List Int} {K : Nat} (hb : Byt l) (h1 : 1 ≤ K) (h7 : K ≤ 7) (hl : K ≤ l.length + 1) :
    0 ≤ val ((b % 2 ^ (8 - K) : Nat) : Int) (l.take (K - 1)) ∧ val ((b % 2 ^ (8 - K) : Nat) : Int) (l.take (K - 1)) < ((2 ^ (7 * K) : Nat) : Int) := by
  have hlen : (l.take (K - 1)).length = K - 1 := by simp; omega
  have := val_bd (l.take (K - 1)) ((b % 2 ^ (8 - K) : Nat) : Int) (2 ^ (8 - K)) (fun x hx => hb x (List.mem_of_mem_take hx)) (by omega) (by have := Nat.mod_lt b (Nat.two_pow_pos (8 - K)); omega)
  rw [hlen, show (256 : Nat) = 2 ^ 8 from rfl, ← Nat.pow_mul, ← Nat.pow_add, show 8 - K + 8 * (K - 1) = 7 * K by omega] at this
  exact this

theorem F22_eq (k : Nat) (c : Cur) (lim : Int) (hc : Byt c.1) (hl : c.1.length ≤ 140737488355328) :
    F22 (k + 12) c lim = some (((numC c lim).1, ()), ((numC c lim).2, ())) := by
  rw [F22_step]
  obtain ⟨l, t, u⟩ := c
  cases l with
  | nil =>
    rw [br_t (by simp), F48_eq]; rfl
  | cons b l =>
    have hbb := hc b (by simp)
    obtain ⟨b, rfl⟩ : ∃ n : Nat, b = (n : Int) := ⟨b.toNat, by omega⟩
    have hb : b < 256 := by omega
    have hcl : Byt l := fun x hx => hc x (by simp [hx])
    obtain ⟨hK1, hK9⟩ := ldK_range b hb
    have hx8 : bl (255 - b) ≤ 8 := bl_le.2 (by omega)
    have hldK : ldK b = 1 + (8 - bl (255 - b)) := by unfold ldK; omega
    simp only [numC, Int.toNat_natCast]
    rw [br_f (by simp; omega), br_t (inB_t ⟨by omega, by simp⟩)]
    rw [show List.getD ((b : Int) :: l) 0 0 = (b : Int) from rfl, xor_255 b hb, F49_eq _ _ (by omega)]
    simp only [bd_s]
    have hKK : IntKind.i64.wrap ((1 : Int) + ((8 - bl (255 - b) : Nat) : Int)) = (ldK b : Int) := by
      rw [IntWalk.i64_in _ ⟨by omega, by omega⟩]; omega
    rw [hKK]
    by_cases h7 : ldK b > 7
    · rw [br_t (decide_eq_true (by omega)), F48_eq, if_pos (.inr (.inl h7))]; rfl
    · rw [br_f (decide_eq_false (by omega)), F50_eq]
      simp only [bd_s]
      unfold takeC
      simp only
      by_cases ht : t = true
      · subst ht
        rw [if_pos (.inl rfl), if_pos (.inl rfl)]; rfl
      · have ht' : t = false := by simpa using ht
        subst ht'
        by_cases hlen : ldK b > l.length + 1
        · rw [if_pos (.inr (.inr (by simp; omega))), if_pos (.inr (.inr hlen))]; rfl
        · rw [if_neg (by simp; omega), if_neg (by simp; omega)]
          obtain ⟨K, hK⟩ : ∃ K, ldK b = K + 1 := ⟨ldK b - 1, by omega⟩
          simp only [hK, Int.toNat_natCast, List.take_succ_cons, List.drop_succ_cons, Nat.add_sub_cancel]
          have hlt : (l.take K).length = K := by simp; omega
          rw [br_f (by simp), br_t (inB_t ⟨by omega, by simp⟩), br_t (by simp; omega), br_t (by simp [leB]; omega)]
          have hpw : Int.fdiv 255 ((2 : Int) ^ (Min.min (K + 1) 8)) = ((255 / 2 ^ (K + 1) : Nat) : Int) := by
            rw [show min (K + 1) 8 = K + 1 by omega, show ((2 : Int) ^ (K + 1)) = ((2 ^ (K + 1) : Nat) : Int) by simp, show (255 : Int) = ((255 : Nat) : Int) from rfl, fdiv_cast]
          rw [hpw, show List.getD ((b : Int) :: l.take K) 0 0 = (b : Int) from rfl, and_low b (K + 1) hb (by omega)]
          rw [List.drop_zero, hlt]
          have hb8 : b % 2 ^ (8 - (K + 1)) < 128 := by
            have h1 := Nat.mod_lt b (Nat.two_pow_pos (8 - (K + 1)))
            have h2 : 2 ^ (8 - (K + 1)) ≤ 2 ^ 7 := Nat.pow_le_pow_right (by omega) (by omega)
            omega
          have hL : L22_0 (k + 11) (l.take K) (K : Int) (k + 11) (((b % 2 ^ (8 - (K + 1)) : Nat) : Int), ((0 : Int), ())) = some (.brk (val ((b % 2 ^ (8 - (K + 1)) : Nat) : Int) (l.take K), ((K : Int), ()))) := by
            have := L22_0_eq (k + 11) (l.take K) (fun x hx => hcl x (List.mem_of_mem_take hx)) (by omega) (k + 11) 0 ((b % 2 ^ (8 - (K + 1)) : Nat) : Int) (by omega) (by omega) (by omega) (by omega)
            rw [hlt] at this
            exact this
          rw [hL, bdL_b]
          dsimp only
          have hv := val_K (b := b) (l := l) (K := K + 1) hcl (by omega) (by omega) (by omega)
          rw [Nat.add_sub_cancel] at hv
          have e2 : ((b : Int) % 2 ^ (8 - (K + 1))) = ((b % 2 ^ (8 - (K + 1)) : Nat) : Int) := by simp
          rw [e2]
          have hs49 : 2 ^ (7 * (K + 1)) ≤ 2 ^ 49 := Nat.pow_le_pow_right (by omega) (by omega)
          generalize val ((b % 2 ^ (8 - (K + 1)) : Nat) : Int) (l.take K) = v at *
          obtain ⟨v, rfl⟩ : ∃ n : Nat, v = (n : Int) := ⟨v.toNat, by omega⟩
          rw [show (k + 11) = (k + 8) + 3 from rfl, F47_eq _ _ (by omega)]
          simp only [bd_s, Int.toNat_natCast]
          have hsz := (sz_K (n := v) (K := K + 1) (by omega) (by omega) (by omega)).2
          by_cases hcond : sz v ≠ K + 1 ∨ (v : Int) > lim
          · rw [if_pos hcond, br_t, F48_eq]
            · rfl
            · rcases hcond with h | h
              · have : ((sz v : Int) != ((K + 1 : Nat) : Int)) = true := by simp only [bne_iff_ne, ne_eq]; omega
                rw [this]; rfl
              · rw [decide_eq_true h]; cases ((sz v : Int) != ((K + 1 : Nat) : Int)) <;> rfl
          · have h1 : sz v = K + 1 := by omega
            have h2 : ¬ ((v : Int) > lim) := by omega
            rw [if_neg hcond, br_f]
            have : ((sz v : Int) != ((K + 1 : Nat) : Int)) = false := by rw [h1]; simp
            rw [this, decide_eq_false h2]; rfl

end Go.Proofs.Ytnffdeokhcojfaa.E

namespace Go.Proofs.Ytnffdeokhcojfaa.E
open Go
set_option linter.unusedSimpArgs false
set_option linter.unusedVariables false

/-- bytes as a text -/
def txt (l : List Int) : List UInt8 := l.map fun n => UInt8.ofNat n.toNat

/-- the next text -/
def textC (c : Cur) (lim : Int) : List UInt8 × Cur := (txt (takeC (numC c lim).2 (numC c lim).1).1, (takeC (numC c lim).2 (numC c lim).1).2.2)

theorem F36_eq (k : Nat) (c : Cur) (lim : Int) (hc : Byt c.1) (hl : c.1.length ≤ 140737488355328) :
    F36 (k + 13) c lim = some (((textC c lim).1, ()), ((textC c lim).2, ())) := by
  rw [F36_step, F22_eq _ _ _ hc hl]
  simp only [bd_s]
  rw [F50_eq]
  rfl

theorem F40_eq (k : Nat) (c : Cur) (n : Int) : F40 (k + 3) c n = some (((takeC c n).1, ()), ((takeC c n).2.2, ())) := by
  rw [F40_step, F50_eq]; rfl

theorem F18_eq (k : Nat) : F18 (k + 30) = some ((true, ()), ()) := by
  have p1 : F19 (k + 29) 128 = some (([128, 128], (true, ())), ()) := by
    have := F19_eq (k + 17) 128 (by unfold most; omega)
    rw [show putL 128 = [128, 128] by kernel_rfl] at this
    exact this
  have p2 : F19 (k + 29) 16384 = some (([192, 64, 0], (true, ())), ()) := by
    have := F19_eq (k + 17) 16384 (by unfold most; omega)
    rw [show putL 16384 = [192, 64, 0] by kernel_rfl] at this
    exact this
  have hb1 : Byt ([2, 97, 98, 5] : List Int) := by unfold Byt; simp
  have hb2 : Byt ([5] : List Int) := by unfold Byt; simp
  have q1 : textC ([2, 97, 98, 5], (false, ())) 9 = ([97, 98], ([5], (false, ()))) := by kernel_rfl
  have q2 : numC ([5], (false, ())) 9 = (5, ([], (false, ()))) := by kernel_rfl
  rw [F18_step, p1, p2, F19_no _ (-1) (by omega), F21_eq _ _ (by simp)]
  simp only [bd_s]
  rw [F20_eq _ _ _ (by simp) (by simp), F20_eq _ _ _ (by simp) (by simp)]
  rw [F36_eq _ _ _ hb1 (by simp), q1]
  simp only [bd_s, br_true, br_false, cond_true, cond_false, Bool.not_false, decide_true]
  rw [F22_eq _ _ _ hb2 (by simp), q2]
  simp [F37_eq]

theorem F10_eq (k : Nat) (n : Int) (s : List UInt8) : F10 (k + 20050) n s = some ((true, ()), ()) := by
  rw [F10_step, show k + 20049 = (k + 20019) + 30 from rfl, F18_eq]
  simp only [bd_s, br_false, Bool.not_true]
  by_cases h : s.length ≤ 20000
  · rw [br_f (decide_eq_false (by omega))]
    have hL : ∀ (l : List Int), l.length ≤ 20010 → F20 (k + 20019 + 30) l l = some ((true, ()), ()) := by
      intro l hl
      rw [show k + 20019 + 30 = (k + 20048) + 1 from rfl, F20_eq _ _ _ (by omega) (by omega)]
      simp
    have h34 : F34 (k + 20019 + 30) s = some ((putL s.length ++ nums s, ()), ()) := F34_eq (k + 20036) s h
    have h35 : F35 (k + 20019 + 30) s = some ((putL s.length ++ nums s, ()), ()) := F35_eq (k + 20036) s h (by omega)
    have hm : s.length ≤ most := by unfold most; omega
    have h7 := sz_most hm
    have hlen : (putL s.length ++ nums s).length ≤ 20010 := by simp [putL_len, nums]; omega
    have fin : ∀ (r : (List Int × Bool × Unit) × Unit), r.1.1.length ≤ 20010 → (bd (some r) fun r1 => bd (some r) fun r2 => br (r1.1.2.1 == r2.1.2.1)
        (bd (F20 (k + 20019 + 30) r1.1.1 r2.1.1) (fun r3 => br (cond true r3.1.1 false)
          (bd (F34 (k + 20019 + 30) s) (fun r4 => bd (F35 (k + 20019 + 30) s) (fun r5 => bd (F20 (k + 20019 + 30) r4.1.1 r5.1.1) (fun r6 => (some (((cond true r6.1.1 false), ()), ()) : Option ((Bool × Unit) × Unit))))))
          (some ((false, ()), ()))))
        (some ((false, ()), ()))) = some ((true, ()), ()) := by
      intro r hr
      simp only [bd_s, beq_self_eq_true, br_true]
      rw [hL _ hr]
      simp only [bd_s, cond_true, br_true]
      rw [h34, h35]
      simp only [bd_s]
      rw [hL _ hlen]
      rfl
    by_cases hn : 0 ≤ n ∧ n ≤ 562949953421311
    · obtain ⟨m, rfl⟩ : ∃ m : Nat, n = (m : Int) := ⟨n.toNat, by omega⟩
      have hmm : m ≤ most := by unfold most; omega
      have e1 : F19 (k + 20019 + 30) (m : Int) = some ((putL m, (true, ())), ()) := F19_eq (k + 20037) m hmm
      have e2 : F33 (k + 20019 + 30) (m : Int) = some ((putL m, (true, ())), ()) := F33_eq (k + 20037) m hmm
      rw [e1, e2]
      exact fin ((putL m, (true, ())), ()) (by have := sz_most hmm; simp [putL_len]; omega)
    · have hn' : n < 0 ∨ n > 562949953421311 := by omega
      have e1 : F19 (k + 20019 + 30) n = some (([], (false, ())), ()) := F19_no (k + 20048) n hn'
      have e2 : F33 (k + 20019 + 30) n = some (([], (false, ())), ()) := F33_no (k + 20048) n hn'
      rw [e1, e2]
      exact fin (([], (false, ())), ()) (by simp)
  · rw [br_t (decide_eq_true (by omega))]

end Go.Proofs.Ytnffdeokhcojfaa.E

namespace Go.Proofs.Ytnffdeokhcojfaa.E
open Go Go.Proofs
set_option linter.unusedSimpArgs false
set_option linter.unusedVariables false

theorem grow_zero (a : Option Addr) (w : World) :
    Calls Try.prog 54 #[.slice a 0 0, .int .i64 0] w fun e w' => e = .returned (.slice a 0 0) ∧ hpOf w' = hpOf w ∧ w'.heap.size = w.heap.size ∧ restOf w' = restOf w := by
  go_enter Try.func54, Try.ntmps54
  go_wp2
  go_ret
  exact ⟨rfl, rfl, rfl, rfl⟩

/-- what a grown slice is -/
def Grew (w : World) (e : Ending) (w' : World) : Prop :=
  ∃ (cs : Array Value) (c : Nat), e = .returned (.slice (some ⟨w.heap.size, 0, none⟩) 0 c) ∧ w'.heap = w.heap.push (.cells cs 5 (0, 0)) ∧ c ≤ cs.size ∧ restOf w' = restOf w

theorem grow_pos_none (n : Int) (h0 : 0 < n) (hn : n ≤ 140737488355328) (w : World) :
    Calls Try.prog 54 #[.slice none 0 0, .int .i64 n] w fun e w' => Grew w e w' := by
  have h1 : ¬ n < 0 := by omega
  have hb5 : Try.t5.bytes = 1 := by kernel_rfl
  have hb : ¬ (281474976710656 < n * ((Try.t5.bytes : Nat) : Int)) := by rw [hb5]; omega
  have hx : ¬ (281474976710656 < Builtin.nextslicecap n.toNat 0) := by
    have := growslice_fits (need := n.toNat) (old := 0) (bytes := 1) (by omega) (by omega)
    omega
  go_enter Try.func54, Try.ntmps54
  go_wp2
  go_ret
  refine ⟨_, _, rfl, rfl, ?_, rfl⟩
  simp only [Array.size_append, size_zeroCells]
  simp
  omega

theorem grow_pos_some (a : Addr) (n : Int) (h0 : 0 < n) (hn : n ≤ 140737488355328) (w : World) :
    Calls Try.prog 54 #[.slice (some a) 0 0, .int .i64 n] w fun e w' => Grew w e w' := by
  have h1 : ¬ n < 0 := by omega
  have hb5 : Try.t5.bytes = 1 := by kernel_rfl
  have hb : ¬ (281474976710656 < n * ((Try.t5.bytes : Nat) : Int)) := by rw [hb5]; omega
  have hx : ¬ (281474976710656 < Builtin.nextslicecap n.toNat 0) := by
    have := growslice_fits (need := n.toNat) (old := 0) (bytes := 1) (by omega) (by omega)
    omega
  go_enter Try.func54, Try.ntmps54
  go_wp2
  go_ret
  refine ⟨_, _, rfl, rfl, ?_, rfl⟩
  simp only [Array.size_append, size_zeroCells]
  simp
  omega

theorem has54 : ∃ F, Try.prog.funcs[54]? = some F ∧ F.body.isSome = true ∧ F.name ≠ "runtime.NumGoroutine" :=
  ⟨Try.f54, by kernel_rfl, by kernel_rfl, by
    have : (Try.f54.name == "runtime.NumGoroutine") = false := by kernel_rfl
    exact beq_eq_false_iff_ne.1 this⟩

theorem prim_ok : PrimOk Try.prog E0 := by
  intro f dst svs σ σ' sv he
  change prim0 f dst svs σ = some (true, sv, σ') at he
  unfold prim0 growPrim at he
  split at he
  · rename_i u b d l n ht
    simp only [tab] at ht
    split at ht
    · rename_i hf
      have hf := Nat.eq_of_beq_eq_true hf
      subst hf
      simp only [Option.some.injEq, Prod.mk.injEq] at ht
      obtain ⟨rfl, rfl⟩ := ht
      simp only [Option.some.injEq, Prod.mk.injEq, makeB_iff] at he
      obtain ⟨⟨h0, _, hn⟩, rfl, rfl⟩ := he
      refine ⟨has54, ?_⟩
      intro C hP hT I β F w tm vs hi hs
      match vs, hs with
      | [v1, v2], ⟨⟨a, h1⟩, h2, _⟩ =>
        subst h1
        obtain rfl := of_int (k := .i64) (n := n) h2
        have hn' : n ≤ 140737488355328 := by simpa using hn
        rcases Int.lt_or_eq_of_le h0 with hpos | rfl
        · have key : Calls Try.prog 54 #[.slice a 0 0, .int .i64 n] w fun e w' => Grew w e w' := by
            cases a with
            | none => exact grow_pos_none n hpos hn' w
            | some a => exact grow_pos_some a n hpos hn' w
          refine key.mono ?_
          rintro e w' ⟨cs, c, rfl, hh, hc, hz⟩
          have e1 : hpOf w' w.heap.size = some (.cells cs 5 (0, 0)) := by simp [hpOf, hh]
          have e2 : ∀ k, k < w.heap.size → hpOf w' k = hpOf w k := by
            intro k hk
            simp only [hpOf, hh, Array.getElem?_push]
            rw [if_neg (by omega)]
          refine ⟨_, rfl, I, _, _, new_after (d := d) (R := .arr false u8 []) (v := .slice (some ⟨w.heap.size, 0, none⟩) 0 c) hi e1 e2 (by rw [hh]; simp) hz ?_, ⟨_, _, _, look_cons_same, by rw [updF_same]⟩⟩
          refine ⟨some ⟨w.heap.size, 0, none⟩, c, rfl, Nat.zero_le _, .inr ⟨w.heap.size, 0, cs, 5, (0, 0), [], rfl, e1, by simp [Ty.size]; exact hc, ⟨by simp, rfl⟩, ?_⟩⟩
          rw [if_pos (by rfl)]
          exact ⟨rfl, .inl rfl⟩
        · refine (grow_zero a w).mono ?_
          rintro e w' ⟨rfl, hh, hsz, hz⟩
          refine ⟨_, rfl, I, _, _, hi.new (w' := w') d (.arr false u8 []) (.slice a 0 0) [] (by rw [hsz]; exact Nat.le_refl _) hz (fun b _ _ => by rw [hh]) ⟨a, 0, rfl, Nat.le_refl _, .inl ⟨rfl, rfl, rfl, rfl⟩⟩ (by simp) (by simp) (by simp), ⟨_, _, _, look_cons_same, by rw [updF_same]⟩⟩
      | [], h => exact h.elim
      | [_], ⟨_, h⟩ => exact h.elim
      | _ :: _ :: _ :: _, ⟨_, _, h⟩ => exact h.elim
    · cases ht
  · cases he

theorem mixed : Try.prog.follows .mixedOrders = true := by kernel_rfl

theorem fn_ok (k : Nat) : FnOk Try.prog E0 (fnE E0 k) := mkEnv_ok mixed prim_ok (by kernel_rfl) k

end Go.Proofs.Ytnffdeokhcojfaa.E
