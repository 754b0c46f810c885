/- The forms of the functions, and plain laws on what they come to. No condition. -/
import Derived.Test.YtkfikongenapfaaDoorKidsNewGE
import Derived.Test.YtkfikongenapfaaDoorProg
import Derived.KernelRfl
import Derived.IntWalk

namespace Go.Proofs.YtkfikongenapfaaDoor.E
open Go Go.Proofs
set_option linter.unusedVariables false
abbrev u8 : Ty := .int .u8

abbrev i64 : Ty := .int .i64

abbrev bs : Ty := .sl false u8

abbrev yid : Ty := .pair i64 (.pair i64 .unit)

abbrev yplace : Ty := .pair yid (.pair .str .unit)

abbrev ychild : Ty := .pair .str (.pair yid .unit)

abbrev yplaces : Ty := .map true yid yplace

abbrev ylists : Ty := .map true yid (.sl true ychild)

abbrev ykids : Ty := .pair yplaces (.pair ylists .unit)

abbrev yseen : Ty := .map true yid i64

abbrev ywalker : Ty := .pair (.ref false ykids) (.pair yseen (.pair (.sl true yid) .unit))

abbrev ycut : Ty := .pair yid (.pair i64 (.pair i64 .unit))

abbrev ycall : Ty := .pair i64 (.pair yid (.pair yplace .unit))

abbrev ychar : Ty := .pair yid (.pair i64 .unit)

abbrev yop : Ty := .pair i64 (.pair yid (.pair i64 (.pair yid (.pair yid (.pair .str (.pair yid (.pair ychar (.pair ychar (.pair .str (.pair (.sl false ycut) (.pair .bool .unit)))))))))))

abbrev yopO : Ty := .pair i64 (.pair yid (.pair i64 (.pair yid (.pair yid (.pair .str (.pair yid (.pair ychar (.pair ychar (.pair .str (.pair (.sl true ycut) (.pair .bool .unit)))))))))))

abbrev ywriter : Ty := .pair (.sl true u8) .unit

abbrev ycur : Ty := .pair bs (.pair .bool .unit)

abbrev yreader : Ty := .pair (.ref true ycur) .unit

def prim0 : FuncId → Option Nat → List SV → St → OpR := fun _ _ _ _ => none

def glob0 : Glob := fun g => match g with | 0 => some ⟨yid, (0, (0, ()))⟩ | 1 => some ⟨yid, (1, (0, ()))⟩ | _ => none

def tyT : List (Nat × Ty) := [(84, .sl true ychild), (45, yplaces), (79, ylists), (81, ykids), (27, .ref true ykids), (130, yseen), (132, ywalker), (129, .ref true ywalker), (93, .ref true ywriter), (95, ywriter), (107, .ref true ycur), (110, yreader), (109, yreader)]

def tyF : List (Nat × List (Nat × Ty)) := [(36, [(57, yopO)]), (28, [(57, yopO)])]

def sigT : List (Nat × Sig) := [(3, ⟨[(false, .sl false ycall), (false, yid), (false, yid)], [.bool]⟩),
   (4, ⟨[(false, .sl false ycall), (false, yid)], [.bool]⟩),
   (5, ⟨[(false, yop), (false, i64), (false, u8)], [.bool]⟩),
   (6, ⟨[(true, bs), (false, yop), (false, yop)], [.bool]⟩),
   (7, ⟨[(false, yop)], [.bool]⟩),
   (8, ⟨[(true, bs)], [.bool]⟩),
   (9, ⟨[(false, .sl false yop), (false, i64)], [.bool]⟩),
   (10, ⟨[], [.bool]⟩),
   (11, ⟨[(false, .sl false ycall)], [.bool]⟩),
   (12, ⟨[], [.ref true ykids]⟩),
   (13, ⟨[(false, .ref true ykids), (false, yid), (false, yplace)], [i64]⟩),
   (14, ⟨[(false, .ref true ykids), (false, yid)], [.bool]⟩),
   (15, ⟨[(true, .ref false ykids), (false, yid), (false, yid)], [.str, .str, i64]⟩),
   (16, ⟨[(false, .str), (false, .str)], [.str, i64]⟩),
   (17, ⟨[(true, .ref false ykids), (false, yid)], [yid, .bool]⟩),
   (18, ⟨[(true, .ref false ykids), (false, yid)], [yplace, .bool]⟩),
   (19, ⟨[(true, .ref false ykids), (false, yid)], [.sl true yid]⟩),
   (20, ⟨[(true, .ref false ykids), (false, yid)], [i64, .bool]⟩),
   (21, ⟨[(false, .str), (false, .str)], [i64]⟩),
   (22, ⟨[(true, .ref false ykids), (false, yid)], [yid, .bool]⟩),
   (23, ⟨[(false, yid), (false, yid)], [i64]⟩),
   (24, ⟨[], [.bool]⟩),
   (25, ⟨[(false, .sl false yop), (false, i64)], [.bool]⟩),
   (26, ⟨[(true, yop)], [.sl true u8, .bool]⟩),
   (27, ⟨[(true, yop)], [.bool]⟩),
   (28, ⟨[(true, bs)], [yop, .bool]⟩),
   (29, ⟨[(true, yop), (true, yop)], [.bool]⟩),
   (30, ⟨[(true, bs)], [.sl true u8]⟩),
   (31, ⟨[(true, bs), (true, bs)], [.bool]⟩),
   (32, ⟨[(true, yop), (true, yop)], [.bool]⟩),
   (33, ⟨[(true, yop)], [.sl true yid]⟩),
   (34, ⟨[(true, .sl false yid), (true, .sl false yid)], [.bool]⟩),
   (35, ⟨[(false, yop)], [yop]⟩),
   (36, ⟨[(true, bs)], [yop, .bool]⟩),
   (37, ⟨[(true, bs)], [.sl true yop, .bool]⟩),
   (38, ⟨[(true, bs)], [.sl true yop, .bool]⟩),
   (39, ⟨[(false, .sl false yop), (false, .sl false yop)], [.bool]⟩),
   (40, ⟨[(false, .sl false yop)], [.sl true u8, .bool]⟩),
   (41, ⟨[(false, .sl false yop)], [.sl true u8, .bool]⟩),
   (42, ⟨[(true, .ref false ykids), (false, yid)], [.sl true yid]⟩),
   (43, ⟨[(false, yid)], [.bool]⟩),
   (44, ⟨[(false, yid)], [.bool]⟩),
   (45, ⟨[(false, .str)], [.bool]⟩),
   (46, ⟨[(true, .ref false ykids), (false, yid), (false, yplace)], [i64, .bool]⟩),
   (47, ⟨[(false, .sl true ychild), (false, i64), (false, .sl true ychild)], [.sl true ychild]⟩),
   (48, ⟨[(false, .sl true ychild), (false, i64), (false, i64)], [.sl true ychild]⟩),
   (51, ⟨[(false, .str)], [.bool]⟩),
   (52, ⟨[(true, .ref false ykids), (false, yid), (false, i64)], [yid, .bool]⟩),
   (53, ⟨[], [yop]⟩),
   (54, ⟨[(false, .ref true ywriter), (true, .sl false i64)], []⟩),
   (55, ⟨[(false, .ref true ywriter), (false, yid)], []⟩),
   (56, ⟨[(false, i64)], [.sl true i64]⟩),
   (57, ⟨[(false, i64), (false, .ref true ywriter), (true, yop)], []⟩),
   (58, ⟨[(false, .pair i64 (.pair i64 .unit))], [.bool]⟩),
   (59, ⟨[(true, yop)], [yop]⟩),
   (60, ⟨[(false, i64), (true, yop)], [.bool]⟩),
   (61, ⟨[(false, i64), (false, .ref true yop), (true, yop)], []⟩),
   (62, ⟨[(true, bs)], [.ref true ycur]⟩),
   (63, ⟨[(false, yreader)], [i64]⟩),
   (64, ⟨[(false, yreader)], [yid]⟩),
   (65, ⟨[(false, i64), (false, yreader), (false, .ref true yopO)], []⟩),
   (66, ⟨[(true, .ref false ycur)], [.bool]⟩),
   (67, ⟨[(true, .sl false ycut), (true, .sl false ycut)], [.bool]⟩),
   (68, ⟨[(true, .sl false yid), (false, yid)], [.bool]⟩),
   (69, ⟨[(true, .sl false ycut)], [.sl true ycut]⟩),
   (70, ⟨[(false, .ref true ycur), (false, i64)], [i64]⟩),
   (71, ⟨[(false, .ref true ycur)], [yid]⟩),
   (72, ⟨[(false, .ref true ycur)], [ychar]⟩),
   (73, ⟨[(false, .ref true ycur), (false, i64)], [.str]⟩),
   (74, ⟨[(false, yop)], [.bool]⟩),
   (75, ⟨[(false, .ref true ycur), (false, i64)], [i64]⟩),
   (76, ⟨[(false, .ref true ycur), (false, i64)], [.str]⟩),
   (77, ⟨[(false, .ref true ywriter), (false, .str)], []⟩),
   (78, ⟨[(false, i64)], [.sl true u8]⟩),
   (79, ⟨[(false, yop)], [.sl true u8, .bool]⟩),
   (80, ⟨[(false, .str)], [.sl true u8]⟩),
   (81, ⟨[(true, .ref true ywalker), (false, yid)], []⟩),
   (83, ⟨[(false, ychild), (false, ychild)], [i64]⟩),
   (86, ⟨[(false, i64)], [.sl true u8, .bool]⟩),
   (87, ⟨[(false, .ref true ywriter), (false, ychar)], []⟩),
   (88, ⟨[(false, ychar)], [.bool]⟩),
   (91, ⟨[(false, ycut)], [.bool]⟩),
   (92, ⟨[(true, bs)], [.sl true u8]⟩),
   (93, ⟨[(false, yreader)], [ychar]⟩),
   (94, ⟨[(false, yreader)], [ycut]⟩),
   (95, ⟨[(true, .sl false yid), (false, yid)], [i64]⟩),
   (96, ⟨[(false, .ref true ycur)], []⟩),
   (97, ⟨[(false, i64)], [.sl true u8, .bool]⟩),
   (98, ⟨[(false, .ref true ycur), (false, i64)], [.sl true u8]⟩),
   (99, ⟨[(false, yid)], [.bool]⟩),
   (100, ⟨[(false, yop)], [yop]⟩),
   (101, ⟨[(false, yid)], [.bool]⟩),
   (102, ⟨[(false, ychar)], [.bool]⟩),
   (103, ⟨[(false, .ref true ycur)], []⟩),
   (104, ⟨[(false, u8)], [i64]⟩),
   (105, ⟨[(false, .ref true ycur), (false, i64)], [bs, .bool]⟩),
   (106, ⟨[(false, i64)], [i64]⟩),
   (107, ⟨[(false, .str)], [.sl true u8]⟩),
   (108, ⟨[(false, yid)], [.sl true u8]⟩),
   (109, ⟨[(false, ychar)], [.sl true u8]⟩),
   (110, ⟨[(true, .sl false i64)], [i64]⟩),
   (111, ⟨[(false, .str), (false, .str)], [i64]⟩),
   (112, ⟨[(false, yid), (false, yid)], [i64]⟩),
   (115, ⟨[(false, u8)], [i64]⟩),
   (116, ⟨[(false, .int .u64)], [i64]⟩),
   (117, ⟨[(false, .str), (false, .str)], [i64]⟩),
   (118, ⟨[(false, i64), (false, i64)], [i64]⟩),
   (120, ⟨[(false, .int .u32)], [i64]⟩),
   (121, ⟨[(false, .int .u64)], [i64]⟩),
   (123, ⟨[(false, i64)], [.bool]⟩)]

def inlT : List (Nat × Sig) := [(49, ⟨[], [i64]⟩),
   (50, ⟨[], [.bool]⟩),
   (82, ⟨[], [i64, .bool]⟩),
   (89, ⟨[], [.bool]⟩),
   (90, ⟨[], [.bool]⟩),
   (114, ⟨[], [i64]⟩)]

def cut111000000_110_0 : Cut := ⟨[(.v 3 false (.int .i64)), (.v 6 true (.sl false (.int .i64))), (.v 7 false (.int .i64))], [(.t 2 false (.int .i64)), (.t 8 false (.int .i64))]⟩

def cut12000000_11_0 : Cut := ⟨[(.v 0 false (.sl false (.pair (.int .i64) (.pair (.pair (.int .i64) (.pair (.int .i64) .unit)) (.pair (.pair (.pair (.int .i64) (.pair (.int .i64) .unit)) (.pair .str .unit)) .unit)))))], [(.t 2 false .bool), (.t 3 false (.int .i64))]⟩

def cut16045000000_49_0 : Cut := ⟨[(.v 0 true (.sl true (.pair .str (.pair (.pair (.int .i64) (.pair (.int .i64) .unit)) .unit)))), (.c 1 (.fn 50 [] [(.p 16000010 [])])), (.v 7 false (.int .i64))], [(.t 4 false (.int .i64)), (.t 8 false (.int .i64)), (.r 16000010 false .str .str)]⟩

def cut17000000_16_0 : Cut := ⟨[(.v 0 false .str), (.v 1 false .str)], [(.t 4 false .str), (.t 5 false (.int .i64)), (.o 6 17020006 false (.int .u8)), (.t 7 false .bool), (.t 8 false (.int .i64))]⟩

def cut20000000_19_0 : Cut := ⟨[(.v 13 true (.sl true (.pair .str (.pair (.pair (.int .i64) (.pair (.int .i64) .unit)) .unit)))), (.v 14 false (.int .i64))], [(.o 5 20020005 false (.pair (.int .i64) (.pair (.int .i64) .unit))), (.t 15 false (.int .i64))]⟩

def cut22000000_21_0 : Cut := ⟨[(.v 0 false .str), (.v 1 false .str)], [(.t 4 false (.int .i64)), (.t 5 false (.int .i64))]⟩

def cut26000000_25_0 : Cut := ⟨[(.v 0 false (.sl false (.pair (.int .i64) (.pair (.pair (.int .i64) (.pair (.int .i64) .unit)) (.pair (.int .i64) (.pair (.pair (.int .i64) (.pair (.int .i64) .unit)) (.pair (.pair (.int .i64) (.pair (.int .i64) .unit)) (.pair .str (.pair (.pair (.int .i64) (.pair (.int .i64) .unit)) (.pair (.pair (.pair (.int .i64) (.pair (.int .i64) .unit)) (.pair (.int .i64) .unit)) (.pair (.pair (.pair (.int .i64) (.pair (.int .i64) .unit)) (.pair (.int .i64) .unit)) (.pair .str (.pair (.sl false (.pair (.pair (.int .i64) (.pair (.int .i64) .unit)) (.pair (.int .i64) (.pair (.int .i64) .unit)))) (.pair .bool .unit))))))))))))))], [(.t 4 false .bool), (.t 5 false (.int .i64))]⟩

def cut27000000_26_0 : Cut := ⟨[(.q 1 true (.pair (.int .i64) (.pair (.pair (.int .i64) (.pair (.int .i64) .unit)) (.pair (.int .i64) (.pair (.pair (.int .i64) (.pair (.int .i64) .unit)) (.pair (.pair (.int .i64) (.pair (.int .i64) .unit)) (.pair .str (.pair (.pair (.int .i64) (.pair (.int .i64) .unit)) (.pair (.pair (.pair (.int .i64) (.pair (.int .i64) .unit)) (.pair (.int .i64) .unit)) (.pair (.pair (.pair (.int .i64) (.pair (.int .i64) .unit)) (.pair (.int .i64) .unit)) (.pair .str (.pair (.sl false (.pair (.pair (.int .i64) (.pair (.int .i64) .unit)) (.pair (.int .i64) (.pair (.int .i64) .unit)))) (.pair .bool .unit))))))))))))), (.c 4 (.p 27000011 [])), (.v 28 true (.sl false (.int .i64))), (.v 29 false (.int .i64))], [(.t 30 false (.int .i64)), (.r 27000011 false (.pair (.sl true (.int .u8)) .unit) (.pair (.sl true (.int .u8)) .unit))]⟩

def cut28000000_27_0 : Cut := ⟨[(.q 1 true (.pair (.int .i64) (.pair (.pair (.int .i64) (.pair (.int .i64) .unit)) (.pair (.int .i64) (.pair (.pair (.int .i64) (.pair (.int .i64) .unit)) (.pair (.pair (.int .i64) (.pair (.int .i64) .unit)) (.pair .str (.pair (.pair (.int .i64) (.pair (.int .i64) .unit)) (.pair (.pair (.pair (.int .i64) (.pair (.int .i64) .unit)) (.pair (.int .i64) .unit)) (.pair (.pair (.pair (.int .i64) (.pair (.int .i64) .unit)) (.pair (.int .i64) .unit)) (.pair .str (.pair (.sl false (.pair (.pair (.int .i64) (.pair (.int .i64) .unit)) (.pair (.int .i64) (.pair (.int .i64) .unit)))) (.pair .bool .unit))))))))))))), (.c 4 (.p 28000004 [])), (.v 31 true (.sl false (.int .i64))), (.v 32 false (.int .i64))], [(.t 2 false .bool), (.t 33 false (.int .i64)), (.r 28000004 false (.pair (.int .i64) (.pair (.pair (.int .i64) (.pair (.int .i64) .unit)) (.pair (.int .i64) (.pair (.pair (.int .i64) (.pair (.int .i64) .unit)) (.pair (.pair (.int .i64) (.pair (.int .i64) .unit)) (.pair .str (.pair (.pair (.int .i64) (.pair (.int .i64) .unit)) (.pair (.pair (.pair (.int .i64) (.pair (.int .i64) .unit)) (.pair (.int .i64) .unit)) (.pair (.pair (.pair (.int .i64) (.pair (.int .i64) .unit)) (.pair (.int .i64) .unit)) (.pair .str (.pair (.sl false (.pair (.pair (.int .i64) (.pair (.int .i64) .unit)) (.pair (.int .i64) (.pair (.int .i64) .unit)))) (.pair .bool .unit)))))))))))) (.pair (.int .i64) (.pair (.pair (.int .i64) (.pair (.int .i64) .unit)) (.pair (.int .i64) (.pair (.pair (.int .i64) (.pair (.int .i64) .unit)) (.pair (.pair (.int .i64) (.pair (.int .i64) .unit)) (.pair .str (.pair (.pair (.int .i64) (.pair (.int .i64) .unit)) (.pair (.pair (.pair (.int .i64) (.pair (.int .i64) .unit)) (.pair (.int .i64) .unit)) (.pair (.pair (.pair (.int .i64) (.pair (.int .i64) .unit)) (.pair (.int .i64) .unit)) (.pair .str (.pair (.sl false (.pair (.pair (.int .i64) (.pair (.int .i64) .unit)) (.pair (.int .i64) (.pair (.int .i64) .unit)))) (.pair .bool .unit)))))))))))))]⟩

def cut29000000_28_0 : Cut := ⟨[(.c 4 (.p 29000004 [])), (.c 5 (.p 29000005 [])), (.v 22 true (.sl false (.int .i64))), (.v 23 false (.int .i64))], [(.t 24 false (.int .i64)), (.r 29000004 false (.pair (.ref true (.pair (.sl false (.int .u8)) (.pair .bool .unit))) .unit) (.pair (.ref true (.pair (.sl false (.int .u8)) (.pair .bool .unit))) .unit)), (.r 29000005 false (.pair (.int .i64) (.pair (.pair (.int .i64) (.pair (.int .i64) .unit)) (.pair (.int .i64) (.pair (.pair (.int .i64) (.pair (.int .i64) .unit)) (.pair (.pair (.int .i64) (.pair (.int .i64) .unit)) (.pair .str (.pair (.pair (.int .i64) (.pair (.int .i64) .unit)) (.pair (.pair (.pair (.int .i64) (.pair (.int .i64) .unit)) (.pair (.int .i64) .unit)) (.pair (.pair (.pair (.int .i64) (.pair (.int .i64) .unit)) (.pair (.int .i64) .unit)) (.pair .str (.pair (.sl true (.pair (.pair (.int .i64) (.pair (.int .i64) .unit)) (.pair (.int .i64) (.pair (.int .i64) .unit)))) (.pair .bool .unit)))))))))))) (.pair (.int .i64) (.pair (.pair (.int .i64) (.pair (.int .i64) .unit)) (.pair (.int .i64) (.pair (.pair (.int .i64) (.pair (.int .i64) .unit)) (.pair (.pair (.int .i64) (.pair (.int .i64) .unit)) (.pair .str (.pair (.pair (.int .i64) (.pair (.int .i64) .unit)) (.pair (.pair (.pair (.int .i64) (.pair (.int .i64) .unit)) (.pair (.int .i64) .unit)) (.pair (.pair (.pair (.int .i64) (.pair (.int .i64) .unit)) (.pair (.int .i64) .unit)) (.pair .str (.pair (.sl true (.pair (.pair (.int .i64) (.pair (.int .i64) .unit)) (.pair (.int .i64) (.pair (.int .i64) .unit)))) (.pair .bool .unit)))))))))))))]⟩

def cut30000000_29_0 : Cut := ⟨[(.q 2 true (.pair (.int .i64) (.pair (.pair (.int .i64) (.pair (.int .i64) .unit)) (.pair (.int .i64) (.pair (.pair (.int .i64) (.pair (.int .i64) .unit)) (.pair (.pair (.int .i64) (.pair (.int .i64) .unit)) (.pair .str (.pair (.pair (.int .i64) (.pair (.int .i64) .unit)) (.pair (.pair (.pair (.int .i64) (.pair (.int .i64) .unit)) (.pair (.int .i64) .unit)) (.pair (.pair (.pair (.int .i64) (.pair (.int .i64) .unit)) (.pair (.int .i64) .unit)) (.pair .str (.pair (.sl false (.pair (.pair (.int .i64) (.pair (.int .i64) .unit)) (.pair (.int .i64) (.pair (.int .i64) .unit)))) (.pair .bool .unit))))))))))))), (.q 3 true (.pair (.int .i64) (.pair (.pair (.int .i64) (.pair (.int .i64) .unit)) (.pair (.int .i64) (.pair (.pair (.int .i64) (.pair (.int .i64) .unit)) (.pair (.pair (.int .i64) (.pair (.int .i64) .unit)) (.pair .str (.pair (.pair (.int .i64) (.pair (.int .i64) .unit)) (.pair (.pair (.pair (.int .i64) (.pair (.int .i64) .unit)) (.pair (.int .i64) .unit)) (.pair (.pair (.pair (.int .i64) (.pair (.int .i64) .unit)) (.pair (.int .i64) .unit)) (.pair .str (.pair (.sl false (.pair (.pair (.int .i64) (.pair (.int .i64) .unit)) (.pair (.int .i64) (.pair (.int .i64) .unit)))) (.pair .bool .unit)))))))))))))], [(.t 4 false .bool), (.t 5 false (.int .i64))]⟩

def cut32000000_31_0 : Cut := ⟨[(.v 0 true (.sl false (.int .u8))), (.v 1 true (.sl false (.int .u8)))], [(.t 4 false .bool), (.t 5 false (.int .i64))]⟩

def cut34000000_33_0 : Cut := ⟨[(.v 23 true (.sl false (.pair (.pair (.int .i64) (.pair (.int .i64) .unit)) (.pair (.int .i64) (.pair (.int .i64) .unit))))), (.v 24 false (.int .i64))], [(.o 3 34020003 false (.pair (.int .i64) (.pair (.int .i64) .unit))), (.t 25 false (.int .i64))]⟩

def cut34000000_33_2 : Cut := ⟨[(.v 35 true (.sl false (.pair (.int .i64) (.pair (.int .i64) .unit)))), (.v 36 false (.int .i64))], [(.o 6 34020006 false (.pair (.int .i64) (.pair (.int .i64) .unit))), (.t 37 false (.int .i64))]⟩

def cut35000000_34_0 : Cut := ⟨[(.v 0 true (.sl false (.pair (.int .i64) (.pair (.int .i64) .unit)))), (.v 1 true (.sl false (.pair (.int .i64) (.pair (.int .i64) .unit))))], [(.t 4 false .bool), (.t 5 false (.int .i64))]⟩

def cut37000000_36_0 : Cut := ⟨[(.c 4 (.p 37000012 [])), (.c 5 (.p 37000005 [])), (.v 6 false (.int .i64))], [(.t 7 false (.int .i64)), (.r 37000012 false (.pair (.sl false (.int .u8)) (.pair .bool .unit)) (.pair (.sl false (.int .u8)) (.pair .bool .unit))), (.r 37000005 false (.pair (.int .i64) (.pair (.pair (.int .i64) (.pair (.int .i64) .unit)) (.pair (.int .i64) (.pair (.pair (.int .i64) (.pair (.int .i64) .unit)) (.pair (.pair (.int .i64) (.pair (.int .i64) .unit)) (.pair .str (.pair (.pair (.int .i64) (.pair (.int .i64) .unit)) (.pair (.pair (.pair (.int .i64) (.pair (.int .i64) .unit)) (.pair (.int .i64) .unit)) (.pair (.pair (.pair (.int .i64) (.pair (.int .i64) .unit)) (.pair (.int .i64) .unit)) (.pair .str (.pair (.sl true (.pair (.pair (.int .i64) (.pair (.int .i64) .unit)) (.pair (.int .i64) (.pair (.int .i64) .unit)))) (.pair .bool .unit)))))))))))) (.pair (.int .i64) (.pair (.pair (.int .i64) (.pair (.int .i64) .unit)) (.pair (.int .i64) (.pair (.pair (.int .i64) (.pair (.int .i64) .unit)) (.pair (.pair (.int .i64) (.pair (.int .i64) .unit)) (.pair .str (.pair (.pair (.int .i64) (.pair (.int .i64) .unit)) (.pair (.pair (.pair (.int .i64) (.pair (.int .i64) .unit)) (.pair (.int .i64) .unit)) (.pair (.pair (.pair (.int .i64) (.pair (.int .i64) .unit)) (.pair (.int .i64) .unit)) (.pair .str (.pair (.sl true (.pair (.pair (.int .i64) (.pair (.int .i64) .unit)) (.pair (.int .i64) (.pair (.int .i64) .unit)))) (.pair .bool .unit)))))))))))))]⟩

def cut37000000_36_1006 : Cut := ⟨[(.c 4 (.p 37000012 [])), (.c 5 (.p 37000005 [])), (.v 29 false .bool)], [(.r 37000012 false (.pair (.sl false (.int .u8)) (.pair .bool .unit)) (.pair (.sl false (.int .u8)) (.pair .bool .unit))), (.r 37000005 false (.pair (.int .i64) (.pair (.pair (.int .i64) (.pair (.int .i64) .unit)) (.pair (.int .i64) (.pair (.pair (.int .i64) (.pair (.int .i64) .unit)) (.pair (.pair (.int .i64) (.pair (.int .i64) .unit)) (.pair .str (.pair (.pair (.int .i64) (.pair (.int .i64) .unit)) (.pair (.pair (.pair (.int .i64) (.pair (.int .i64) .unit)) (.pair (.int .i64) .unit)) (.pair (.pair (.pair (.int .i64) (.pair (.int .i64) .unit)) (.pair (.int .i64) .unit)) (.pair .str (.pair (.sl true (.pair (.pair (.int .i64) (.pair (.int .i64) .unit)) (.pair (.int .i64) (.pair (.int .i64) .unit)))) (.pair .bool .unit)))))))))))) (.pair (.int .i64) (.pair (.pair (.int .i64) (.pair (.int .i64) .unit)) (.pair (.int .i64) (.pair (.pair (.int .i64) (.pair (.int .i64) .unit)) (.pair (.pair (.int .i64) (.pair (.int .i64) .unit)) (.pair .str (.pair (.pair (.int .i64) (.pair (.int .i64) .unit)) (.pair (.pair (.pair (.int .i64) (.pair (.int .i64) .unit)) (.pair (.int .i64) .unit)) (.pair (.pair (.pair (.int .i64) (.pair (.int .i64) .unit)) (.pair (.int .i64) .unit)) (.pair .str (.pair (.sl true (.pair (.pair (.int .i64) (.pair (.int .i64) .unit)) (.pair (.int .i64) (.pair (.int .i64) .unit)))) (.pair .bool .unit)))))))))))))]⟩

def cut37000000_36_1008 : Cut := ⟨[(.c 4 (.p 37000012 [])), (.c 5 (.p 37000005 [])), (.v 40 false .bool)], [(.r 37000012 false (.pair (.sl false (.int .u8)) (.pair .bool .unit)) (.pair (.sl false (.int .u8)) (.pair .bool .unit))), (.r 37000005 false (.pair (.int .i64) (.pair (.pair (.int .i64) (.pair (.int .i64) .unit)) (.pair (.int .i64) (.pair (.pair (.int .i64) (.pair (.int .i64) .unit)) (.pair (.pair (.int .i64) (.pair (.int .i64) .unit)) (.pair .str (.pair (.pair (.int .i64) (.pair (.int .i64) .unit)) (.pair (.pair (.pair (.int .i64) (.pair (.int .i64) .unit)) (.pair (.int .i64) .unit)) (.pair (.pair (.pair (.int .i64) (.pair (.int .i64) .unit)) (.pair (.int .i64) .unit)) (.pair .str (.pair (.sl true (.pair (.pair (.int .i64) (.pair (.int .i64) .unit)) (.pair (.int .i64) (.pair (.int .i64) .unit)))) (.pair .bool .unit)))))))))))) (.pair (.int .i64) (.pair (.pair (.int .i64) (.pair (.int .i64) .unit)) (.pair (.int .i64) (.pair (.pair (.int .i64) (.pair (.int .i64) .unit)) (.pair (.pair (.int .i64) (.pair (.int .i64) .unit)) (.pair .str (.pair (.pair (.int .i64) (.pair (.int .i64) .unit)) (.pair (.pair (.pair (.int .i64) (.pair (.int .i64) .unit)) (.pair (.int .i64) .unit)) (.pair (.pair (.pair (.int .i64) (.pair (.int .i64) .unit)) (.pair (.int .i64) .unit)) (.pair .str (.pair (.sl true (.pair (.pair (.int .i64) (.pair (.int .i64) .unit)) (.pair (.int .i64) (.pair (.int .i64) .unit)))) (.pair .bool .unit)))))))))))))]⟩

def cut37000000_36_1012 : Cut := ⟨[(.c 4 (.p 37000012 [])), (.c 5 (.p 37000005 [])), (.v 62 false .bool)], [(.r 37000012 false (.pair (.sl false (.int .u8)) (.pair .bool .unit)) (.pair (.sl false (.int .u8)) (.pair .bool .unit))), (.r 37000005 false (.pair (.int .i64) (.pair (.pair (.int .i64) (.pair (.int .i64) .unit)) (.pair (.int .i64) (.pair (.pair (.int .i64) (.pair (.int .i64) .unit)) (.pair (.pair (.int .i64) (.pair (.int .i64) .unit)) (.pair .str (.pair (.pair (.int .i64) (.pair (.int .i64) .unit)) (.pair (.pair (.pair (.int .i64) (.pair (.int .i64) .unit)) (.pair (.int .i64) .unit)) (.pair (.pair (.pair (.int .i64) (.pair (.int .i64) .unit)) (.pair (.int .i64) .unit)) (.pair .str (.pair (.sl true (.pair (.pair (.int .i64) (.pair (.int .i64) .unit)) (.pair (.int .i64) (.pair (.int .i64) .unit)))) (.pair .bool .unit)))))))))))) (.pair (.int .i64) (.pair (.pair (.int .i64) (.pair (.int .i64) .unit)) (.pair (.int .i64) (.pair (.pair (.int .i64) (.pair (.int .i64) .unit)) (.pair (.pair (.int .i64) (.pair (.int .i64) .unit)) (.pair .str (.pair (.pair (.int .i64) (.pair (.int .i64) .unit)) (.pair (.pair (.pair (.int .i64) (.pair (.int .i64) .unit)) (.pair (.int .i64) .unit)) (.pair (.pair (.pair (.int .i64) (.pair (.int .i64) .unit)) (.pair (.int .i64) .unit)) (.pair .str (.pair (.sl true (.pair (.pair (.int .i64) (.pair (.int .i64) .unit)) (.pair (.int .i64) (.pair (.int .i64) .unit)))) (.pair .bool .unit)))))))))))))]⟩

def cut37000000_36_1015 : Cut := ⟨[(.c 4 (.p 37000012 [])), (.c 5 (.p 37000005 [])), (.v 71 false .bool)], [(.r 37000012 false (.pair (.sl false (.int .u8)) (.pair .bool .unit)) (.pair (.sl false (.int .u8)) (.pair .bool .unit))), (.r 37000005 false (.pair (.int .i64) (.pair (.pair (.int .i64) (.pair (.int .i64) .unit)) (.pair (.int .i64) (.pair (.pair (.int .i64) (.pair (.int .i64) .unit)) (.pair (.pair (.int .i64) (.pair (.int .i64) .unit)) (.pair .str (.pair (.pair (.int .i64) (.pair (.int .i64) .unit)) (.pair (.pair (.pair (.int .i64) (.pair (.int .i64) .unit)) (.pair (.int .i64) .unit)) (.pair (.pair (.pair (.int .i64) (.pair (.int .i64) .unit)) (.pair (.int .i64) .unit)) (.pair .str (.pair (.sl true (.pair (.pair (.int .i64) (.pair (.int .i64) .unit)) (.pair (.int .i64) (.pair (.int .i64) .unit)))) (.pair .bool .unit)))))))))))) (.pair (.int .i64) (.pair (.pair (.int .i64) (.pair (.int .i64) .unit)) (.pair (.int .i64) (.pair (.pair (.int .i64) (.pair (.int .i64) .unit)) (.pair (.pair (.int .i64) (.pair (.int .i64) .unit)) (.pair .str (.pair (.pair (.int .i64) (.pair (.int .i64) .unit)) (.pair (.pair (.pair (.int .i64) (.pair (.int .i64) .unit)) (.pair (.int .i64) .unit)) (.pair (.pair (.pair (.int .i64) (.pair (.int .i64) .unit)) (.pair (.int .i64) .unit)) (.pair .str (.pair (.sl true (.pair (.pair (.int .i64) (.pair (.int .i64) .unit)) (.pair (.int .i64) (.pair (.int .i64) .unit)))) (.pair .bool .unit)))))))))))))]⟩

def cut37000000_36_1017 : Cut := ⟨[(.c 4 (.p 37000012 [])), (.c 5 (.p 37000005 [])), (.v 77 false .bool)], [(.r 37000012 false (.pair (.sl false (.int .u8)) (.pair .bool .unit)) (.pair (.sl false (.int .u8)) (.pair .bool .unit))), (.r 37000005 false (.pair (.int .i64) (.pair (.pair (.int .i64) (.pair (.int .i64) .unit)) (.pair (.int .i64) (.pair (.pair (.int .i64) (.pair (.int .i64) .unit)) (.pair (.pair (.int .i64) (.pair (.int .i64) .unit)) (.pair .str (.pair (.pair (.int .i64) (.pair (.int .i64) .unit)) (.pair (.pair (.pair (.int .i64) (.pair (.int .i64) .unit)) (.pair (.int .i64) .unit)) (.pair (.pair (.pair (.int .i64) (.pair (.int .i64) .unit)) (.pair (.int .i64) .unit)) (.pair .str (.pair (.sl true (.pair (.pair (.int .i64) (.pair (.int .i64) .unit)) (.pair (.int .i64) (.pair (.int .i64) .unit)))) (.pair .bool .unit)))))))))))) (.pair (.int .i64) (.pair (.pair (.int .i64) (.pair (.int .i64) .unit)) (.pair (.int .i64) (.pair (.pair (.int .i64) (.pair (.int .i64) .unit)) (.pair (.pair (.int .i64) (.pair (.int .i64) .unit)) (.pair .str (.pair (.pair (.int .i64) (.pair (.int .i64) .unit)) (.pair (.pair (.pair (.int .i64) (.pair (.int .i64) .unit)) (.pair (.int .i64) .unit)) (.pair (.pair (.pair (.int .i64) (.pair (.int .i64) .unit)) (.pair (.int .i64) .unit)) (.pair .str (.pair (.sl true (.pair (.pair (.int .i64) (.pair (.int .i64) .unit)) (.pair (.int .i64) (.pair (.int .i64) .unit)))) (.pair .bool .unit)))))))))))))]⟩

def cut37000000_36_1026 : Cut := ⟨[(.c 4 (.p 37000012 [])), (.c 5 (.p 37000005 [])), (.v 102 false .bool)], [(.r 37000012 false (.pair (.sl false (.int .u8)) (.pair .bool .unit)) (.pair (.sl false (.int .u8)) (.pair .bool .unit))), (.r 37000005 false (.pair (.int .i64) (.pair (.pair (.int .i64) (.pair (.int .i64) .unit)) (.pair (.int .i64) (.pair (.pair (.int .i64) (.pair (.int .i64) .unit)) (.pair (.pair (.int .i64) (.pair (.int .i64) .unit)) (.pair .str (.pair (.pair (.int .i64) (.pair (.int .i64) .unit)) (.pair (.pair (.pair (.int .i64) (.pair (.int .i64) .unit)) (.pair (.int .i64) .unit)) (.pair (.pair (.pair (.int .i64) (.pair (.int .i64) .unit)) (.pair (.int .i64) .unit)) (.pair .str (.pair (.sl true (.pair (.pair (.int .i64) (.pair (.int .i64) .unit)) (.pair (.int .i64) (.pair (.int .i64) .unit)))) (.pair .bool .unit)))))))))))) (.pair (.int .i64) (.pair (.pair (.int .i64) (.pair (.int .i64) .unit)) (.pair (.int .i64) (.pair (.pair (.int .i64) (.pair (.int .i64) .unit)) (.pair (.pair (.int .i64) (.pair (.int .i64) .unit)) (.pair .str (.pair (.pair (.int .i64) (.pair (.int .i64) .unit)) (.pair (.pair (.pair (.int .i64) (.pair (.int .i64) .unit)) (.pair (.int .i64) .unit)) (.pair (.pair (.pair (.int .i64) (.pair (.int .i64) .unit)) (.pair (.int .i64) .unit)) (.pair .str (.pair (.sl true (.pair (.pair (.int .i64) (.pair (.int .i64) .unit)) (.pair (.int .i64) (.pair (.int .i64) .unit)))) (.pair .bool .unit)))))))))))))]⟩

def cut38000000_37_0 : Cut := ⟨[(.c 4 (.p 38000004 []))], [(.o 2 38020002 false (.pair (.int .i64) (.pair (.pair (.int .i64) (.pair (.int .i64) .unit)) (.pair (.int .i64) (.pair (.pair (.int .i64) (.pair (.int .i64) .unit)) (.pair (.pair (.int .i64) (.pair (.int .i64) .unit)) (.pair .str (.pair (.pair (.int .i64) (.pair (.int .i64) .unit)) (.pair (.pair (.pair (.int .i64) (.pair (.int .i64) .unit)) (.pair (.int .i64) .unit)) (.pair (.pair (.pair (.int .i64) (.pair (.int .i64) .unit)) (.pair (.int .i64) .unit)) (.pair .str (.pair (.sl false (.pair (.pair (.int .i64) (.pair (.int .i64) .unit)) (.pair (.int .i64) (.pair (.int .i64) .unit)))) (.pair .bool .unit))))))))))))), (.t 3 false .bool), (.o 5 38020005 false (.pair (.int .i64) (.pair (.pair (.int .i64) (.pair (.int .i64) .unit)) (.pair (.int .i64) (.pair (.pair (.int .i64) (.pair (.int .i64) .unit)) (.pair (.pair (.int .i64) (.pair (.int .i64) .unit)) (.pair .str (.pair (.pair (.int .i64) (.pair (.int .i64) .unit)) (.pair (.pair (.pair (.int .i64) (.pair (.int .i64) .unit)) (.pair (.int .i64) .unit)) (.pair (.pair (.pair (.int .i64) (.pair (.int .i64) .unit)) (.pair (.int .i64) .unit)) (.pair .str (.pair (.sl false (.pair (.pair (.int .i64) (.pair (.int .i64) .unit)) (.pair (.int .i64) (.pair (.int .i64) .unit)))) (.pair .bool .unit))))))))))))), (.t 6 false (.int .i64)), (.r 38000004 false (.pair (.ref true (.pair (.sl false (.int .u8)) (.pair .bool .unit))) .unit) (.pair (.ref true (.pair (.sl false (.int .u8)) (.pair .bool .unit))) .unit))]⟩

def cut39000000_38_0 : Cut := ⟨[(.c 4 (.p 39000013 [])), (.v 5 false (.int .i64))], [(.o 2 39020002 false (.pair (.int .i64) (.pair (.pair (.int .i64) (.pair (.int .i64) .unit)) (.pair (.int .i64) (.pair (.pair (.int .i64) (.pair (.int .i64) .unit)) (.pair (.pair (.int .i64) (.pair (.int .i64) .unit)) (.pair .str (.pair (.pair (.int .i64) (.pair (.int .i64) .unit)) (.pair (.pair (.pair (.int .i64) (.pair (.int .i64) .unit)) (.pair (.int .i64) .unit)) (.pair (.pair (.pair (.int .i64) (.pair (.int .i64) .unit)) (.pair (.int .i64) .unit)) (.pair .str (.pair (.sl false (.pair (.pair (.int .i64) (.pair (.int .i64) .unit)) (.pair (.int .i64) (.pair (.int .i64) .unit)))) (.pair .bool .unit))))))))))))), (.t 3 false .bool), (.o 6 39020006 false (.pair (.int .i64) (.pair (.pair (.int .i64) (.pair (.int .i64) .unit)) (.pair (.int .i64) (.pair (.pair (.int .i64) (.pair (.int .i64) .unit)) (.pair (.pair (.int .i64) (.pair (.int .i64) .unit)) (.pair .str (.pair (.pair (.int .i64) (.pair (.int .i64) .unit)) (.pair (.pair (.pair (.int .i64) (.pair (.int .i64) .unit)) (.pair (.int .i64) .unit)) (.pair (.pair (.pair (.int .i64) (.pair (.int .i64) .unit)) (.pair (.int .i64) .unit)) (.pair .str (.pair (.sl false (.pair (.pair (.int .i64) (.pair (.int .i64) .unit)) (.pair (.int .i64) (.pair (.int .i64) .unit)))) (.pair .bool .unit))))))))))))), (.t 7 false (.int .i64)), (.r 39000013 false (.pair (.sl false (.int .u8)) (.pair .bool .unit)) (.pair (.sl false (.int .u8)) (.pair .bool .unit)))]⟩

def cut4000000_3_0 : Cut := ⟨[(.v 0 false (.sl false (.pair (.int .i64) (.pair (.pair (.int .i64) (.pair (.int .i64) .unit)) (.pair (.pair (.pair (.int .i64) (.pair (.int .i64) .unit)) (.pair .str .unit)) .unit))))), (.c 7 (.p 4000025 [])), (.q 8 true (.pair (.int .i64) (.pair (.int .i64) .unit)))], [(.t 6 false .bool), (.t 9 false (.int .i64)), (.r 4000025 false (.pair (.map true (.pair (.int .i64) (.pair (.int .i64) .unit)) (.pair (.pair (.int .i64) (.pair (.int .i64) .unit)) (.pair .str .unit))) (.pair (.map true (.pair (.int .i64) (.pair (.int .i64) .unit)) (.sl true (.pair .str (.pair (.pair (.int .i64) (.pair (.int .i64) .unit)) .unit)))) .unit)) (.pair (.map true (.pair (.int .i64) (.pair (.int .i64) .unit)) (.pair (.pair (.int .i64) (.pair (.int .i64) .unit)) (.pair .str .unit))) (.pair (.map true (.pair (.int .i64) (.pair (.int .i64) .unit)) (.sl true (.pair .str (.pair (.pair (.int .i64) (.pair (.int .i64) .unit)) .unit)))) .unit)))]⟩

def cut40000000_39_0 : Cut := ⟨[(.v 0 false (.sl false (.pair (.int .i64) (.pair (.pair (.int .i64) (.pair (.int .i64) .unit)) (.pair (.int .i64) (.pair (.pair (.int .i64) (.pair (.int .i64) .unit)) (.pair (.pair (.int .i64) (.pair (.int .i64) .unit)) (.pair .str (.pair (.pair (.int .i64) (.pair (.int .i64) .unit)) (.pair (.pair (.pair (.int .i64) (.pair (.int .i64) .unit)) (.pair (.int .i64) .unit)) (.pair (.pair (.pair (.int .i64) (.pair (.int .i64) .unit)) (.pair (.int .i64) .unit)) (.pair .str (.pair (.sl false (.pair (.pair (.int .i64) (.pair (.int .i64) .unit)) (.pair (.int .i64) (.pair (.int .i64) .unit)))) (.pair .bool .unit)))))))))))))), (.v 1 false (.sl false (.pair (.int .i64) (.pair (.pair (.int .i64) (.pair (.int .i64) .unit)) (.pair (.int .i64) (.pair (.pair (.int .i64) (.pair (.int .i64) .unit)) (.pair (.pair (.int .i64) (.pair (.int .i64) .unit)) (.pair .str (.pair (.pair (.int .i64) (.pair (.int .i64) .unit)) (.pair (.pair (.pair (.int .i64) (.pair (.int .i64) .unit)) (.pair (.int .i64) .unit)) (.pair (.pair (.pair (.int .i64) (.pair (.int .i64) .unit)) (.pair (.int .i64) .unit)) (.pair .str (.pair (.sl false (.pair (.pair (.int .i64) (.pair (.int .i64) .unit)) (.pair (.int .i64) (.pair (.int .i64) .unit)))) (.pair .bool .unit))))))))))))))], [(.t 4 false .bool), (.t 5 false (.int .i64))]⟩

def cut41000000_40_0 : Cut := ⟨[(.c 4 (.p 41000010 [])), (.v 16 false (.sl false (.pair (.int .i64) (.pair (.pair (.int .i64) (.pair (.int .i64) .unit)) (.pair (.int .i64) (.pair (.pair (.int .i64) (.pair (.int .i64) .unit)) (.pair (.pair (.int .i64) (.pair (.int .i64) .unit)) (.pair .str (.pair (.pair (.int .i64) (.pair (.int .i64) .unit)) (.pair (.pair (.pair (.int .i64) (.pair (.int .i64) .unit)) (.pair (.int .i64) .unit)) (.pair (.pair (.pair (.int .i64) (.pair (.int .i64) .unit)) (.pair (.int .i64) .unit)) (.pair .str (.pair (.sl false (.pair (.pair (.int .i64) (.pair (.int .i64) .unit)) (.pair (.int .i64) (.pair (.int .i64) .unit)))) (.pair .bool .unit)))))))))))))), (.v 17 false (.int .i64))], [(.o 2 41020002 false (.int .u8)), (.t 3 false .bool), (.t 18 false (.int .i64)), (.r 41000010 false (.pair (.sl true (.int .u8)) .unit) (.pair (.sl true (.int .u8)) .unit))]⟩

def cut42000000_41_0 : Cut := ⟨[(.v 0 false (.sl false (.pair (.int .i64) (.pair (.pair (.int .i64) (.pair (.int .i64) .unit)) (.pair (.int .i64) (.pair (.pair (.int .i64) (.pair (.int .i64) .unit)) (.pair (.pair (.int .i64) (.pair (.int .i64) .unit)) (.pair .str (.pair (.pair (.int .i64) (.pair (.int .i64) .unit)) (.pair (.pair (.pair (.int .i64) (.pair (.int .i64) .unit)) (.pair (.int .i64) .unit)) (.pair (.pair (.pair (.int .i64) (.pair (.int .i64) .unit)) (.pair (.int .i64) .unit)) (.pair .str (.pair (.sl false (.pair (.pair (.int .i64) (.pair (.int .i64) .unit)) (.pair (.int .i64) (.pair (.int .i64) .unit)))) (.pair .bool .unit))))))))))))))], [(.o 2 42020002 false (.int .u8)), (.t 3 false .bool), (.o 4 42020004 false (.int .u8)), (.t 5 false (.int .i64))]⟩

def cut47020000000_82_0 : Cut := ⟨[(.v 0 true (.sl true (.pair .str (.pair (.pair (.int .i64) (.pair (.int .i64) .unit)) .unit)))), (.c 2 (.fn 83 [] [])), (.q 4 true (.pair .str (.pair (.pair (.int .i64) (.pair (.int .i64) .unit)) .unit)))], [(.t 9 false (.int .i64)), (.t 10 false (.int .i64))]⟩

def cut5000000_4_0 : Cut := ⟨[(.v 0 false (.sl false (.pair (.int .i64) (.pair (.pair (.int .i64) (.pair (.int .i64) .unit)) (.pair (.pair (.pair (.int .i64) (.pair (.int .i64) .unit)) (.pair .str .unit)) .unit))))), (.c 5 (.p 5000029 [])), (.c 6 (.mp 5000030))], [(.t 4 false .bool), (.t 7 false (.int .i64)), (.r 5000029 false (.pair (.map true (.pair (.int .i64) (.pair (.int .i64) .unit)) (.pair (.pair (.int .i64) (.pair (.int .i64) .unit)) (.pair .str .unit))) (.pair (.map true (.pair (.int .i64) (.pair (.int .i64) .unit)) (.sl true (.pair .str (.pair (.pair (.int .i64) (.pair (.int .i64) .unit)) .unit)))) .unit)) (.pair (.map true (.pair (.int .i64) (.pair (.int .i64) .unit)) (.pair (.pair (.int .i64) (.pair (.int .i64) .unit)) (.pair .str .unit))) (.pair (.map true (.pair (.int .i64) (.pair (.int .i64) .unit)) (.sl true (.pair .str (.pair (.pair (.int .i64) (.pair (.int .i64) .unit)) .unit)))) .unit))), (.m 5000030 false (.pair (.int .i64) (.pair (.int .i64) .unit)) (.pair (.pair (.int .i64) (.pair (.int .i64) .unit)) (.pair .str .unit)))]⟩

def cut55000000_54_0 : Cut := ⟨[(.c 0 (.p 0 [])), (.v 8 true (.sl false (.int .i64))), (.v 9 false (.int .i64))], [(.t 10 false (.int .i64)), (.r 0 false (.pair (.sl true (.int .u8)) .unit) (.pair (.sl true (.int .u8)) .unit))]⟩

def cut58000000_57_1 : Cut := ⟨[(.c 1 (.p 1 [])), (.v 55 true (.sl false (.pair (.pair (.int .i64) (.pair (.int .i64) .unit)) (.pair (.int .i64) (.pair (.int .i64) .unit))))), (.v 56 false (.int .i64))], [(.t 57 false (.int .i64)), (.r 1 false (.pair (.sl true (.int .u8)) .unit) (.pair (.sl true (.int .u8)) .unit))]⟩

def cut61063008000000_114_0 : Cut := ⟨[(.v 0 true (.sl false (.pair (.pair (.int .i64) (.pair (.int .i64) .unit)) (.pair (.int .i64) (.pair (.int .i64) .unit))))), (.c 1 (.fn 90 [] [])), (.v 7 false (.int .i64))], [(.t 4 false (.int .i64)), (.t 8 false (.int .i64))]⟩

def cut66000000_65_1 : Cut := ⟨[(.c 1 (.v false (.pair (.hole 1) .unit) (.unit, .unit))), (.c 2 (.p 2 [])), (.c 4 (.p 66000004 []))], [(.t 6 false (.int .i64)), (.r 1 false (.pair (.sl false (.int .u8)) (.pair .bool .unit)) (.pair (.sl false (.int .u8)) (.pair .bool .unit))), (.r 2 false (.pair (.int .i64) (.pair (.pair (.int .i64) (.pair (.int .i64) .unit)) (.pair (.int .i64) (.pair (.pair (.int .i64) (.pair (.int .i64) .unit)) (.pair (.pair (.int .i64) (.pair (.int .i64) .unit)) (.pair .str (.pair (.pair (.int .i64) (.pair (.int .i64) .unit)) (.pair (.pair (.pair (.int .i64) (.pair (.int .i64) .unit)) (.pair (.int .i64) .unit)) (.pair (.pair (.pair (.int .i64) (.pair (.int .i64) .unit)) (.pair (.int .i64) .unit)) (.pair .str (.pair (.sl true (.pair (.pair (.int .i64) (.pair (.int .i64) .unit)) (.pair (.int .i64) (.pair (.int .i64) .unit)))) (.pair .bool .unit)))))))))))) (.pair (.int .i64) (.pair (.pair (.int .i64) (.pair (.int .i64) .unit)) (.pair (.int .i64) (.pair (.pair (.int .i64) (.pair (.int .i64) .unit)) (.pair (.pair (.int .i64) (.pair (.int .i64) .unit)) (.pair .str (.pair (.pair (.int .i64) (.pair (.int .i64) .unit)) (.pair (.pair (.pair (.int .i64) (.pair (.int .i64) .unit)) (.pair (.int .i64) .unit)) (.pair (.pair (.pair (.int .i64) (.pair (.int .i64) .unit)) (.pair (.int .i64) .unit)) (.pair .str (.pair (.sl true (.pair (.pair (.int .i64) (.pair (.int .i64) .unit)) (.pair (.int .i64) (.pair (.int .i64) .unit)))) (.pair .bool .unit))))))))))))), (.r 66000004 false (.pair (.hole 1) .unit) (.pair (.ref true (.pair (.sl false (.int .u8)) (.pair .bool .unit))) .unit))]⟩

def cut68000000_67_0 : Cut := ⟨[(.v 0 true (.sl false (.pair (.pair (.int .i64) (.pair (.int .i64) .unit)) (.pair (.int .i64) (.pair (.int .i64) .unit))))), (.v 1 true (.sl false (.pair (.pair (.int .i64) (.pair (.int .i64) .unit)) (.pair (.int .i64) (.pair (.int .i64) .unit))))), (.v 12 false (.int .i64))], [(.t 4 false .bool), (.t 13 false (.int .i64))]⟩

def cut71000000_70_0 : Cut := ⟨[], [(.t 5 false (.int .i64)), (.t 6 false (.int .i64)), (.t 7 false (.int .i64))]⟩

def cut71000000_70_2 : Cut := ⟨[(.q 0 true (.pair (.sl false (.int .u8)) (.pair .bool .unit))), (.v 5 false (.int .i64))], [(.t 8 false (.int .i64)), (.t 9 false (.int .i64))]⟩

def cut75000000_74_0 : Cut := ⟨[(.q 1 true (.pair (.int .i64) (.pair (.pair (.int .i64) (.pair (.int .i64) .unit)) (.pair (.int .i64) (.pair (.pair (.int .i64) (.pair (.int .i64) .unit)) (.pair (.pair (.int .i64) (.pair (.int .i64) .unit)) (.pair .str (.pair (.pair (.int .i64) (.pair (.int .i64) .unit)) (.pair (.pair (.pair (.int .i64) (.pair (.int .i64) .unit)) (.pair (.int .i64) .unit)) (.pair (.pair (.pair (.int .i64) (.pair (.int .i64) .unit)) (.pair (.int .i64) .unit)) (.pair .str (.pair (.sl false (.pair (.pair (.int .i64) (.pair (.int .i64) .unit)) (.pair (.int .i64) (.pair (.int .i64) .unit)))) (.pair .bool .unit))))))))))))), (.v 3 false .bool), (.v 4 false .bool), (.v 50 false (.int .i64))], [(.t 2 false .bool)]⟩

def cut75000000_74_1 : Cut := ⟨[(.q 1 true (.pair (.int .i64) (.pair (.pair (.int .i64) (.pair (.int .i64) .unit)) (.pair (.int .i64) (.pair (.pair (.int .i64) (.pair (.int .i64) .unit)) (.pair (.pair (.int .i64) (.pair (.int .i64) .unit)) (.pair .str (.pair (.pair (.int .i64) (.pair (.int .i64) .unit)) (.pair (.pair (.pair (.int .i64) (.pair (.int .i64) .unit)) (.pair (.int .i64) .unit)) (.pair (.pair (.pair (.int .i64) (.pair (.int .i64) .unit)) (.pair (.int .i64) .unit)) (.pair .str (.pair (.sl false (.pair (.pair (.int .i64) (.pair (.int .i64) .unit)) (.pair (.int .i64) (.pair (.int .i64) .unit)))) (.pair .bool .unit)))))))))))))], [(.t 2 false .bool), (.t 5 false (.int .i64))]⟩

def cut76000000_75_0 : Cut := ⟨[(.v 48 false (.sl false (.int .u8))), (.v 49 false (.int .i64))], [(.t 8 false (.int .i64)), (.t 50 false (.int .i64))]⟩

def cut8000000_7_0 : Cut := ⟨[(.v 3 true (.sl false (.pair (.int .i64) (.pair (.int .i64) .unit))))], [(.t 2 false .bool), (.t 4 false (.int .i64))]⟩

def cut8000000_7_2 : Cut := ⟨[(.v 3 true (.sl false (.pair (.int .i64) (.pair (.int .i64) .unit)))), (.v 4 false (.int .i64))], [(.t 2 false .bool), (.t 5 false (.int .i64))]⟩

def cut80000000_79_0 : Cut := ⟨[(.q 1 true (.pair (.int .i64) (.pair (.pair (.int .i64) (.pair (.int .i64) .unit)) (.pair (.int .i64) (.pair (.pair (.int .i64) (.pair (.int .i64) .unit)) (.pair (.pair (.int .i64) (.pair (.int .i64) .unit)) (.pair .str (.pair (.pair (.int .i64) (.pair (.int .i64) .unit)) (.pair (.pair (.pair (.int .i64) (.pair (.int .i64) .unit)) (.pair (.int .i64) .unit)) (.pair (.pair (.pair (.int .i64) (.pair (.int .i64) .unit)) (.pair (.int .i64) .unit)) (.pair .str (.pair (.sl false (.pair (.pair (.int .i64) (.pair (.int .i64) .unit)) (.pair (.int .i64) (.pair (.int .i64) .unit)))) (.pair .bool .unit)))))))))))))], [(.o 4 80020004 false (.int .u8)), (.t 5 false (.int .i64))]⟩

def cut80000000_79_1006 : Cut := ⟨[(.q 1 true (.pair (.int .i64) (.pair (.pair (.int .i64) (.pair (.int .i64) .unit)) (.pair (.int .i64) (.pair (.pair (.int .i64) (.pair (.int .i64) .unit)) (.pair (.pair (.int .i64) (.pair (.int .i64) .unit)) (.pair .str (.pair (.pair (.int .i64) (.pair (.int .i64) .unit)) (.pair (.pair (.pair (.int .i64) (.pair (.int .i64) .unit)) (.pair (.int .i64) .unit)) (.pair (.pair (.pair (.int .i64) (.pair (.int .i64) .unit)) (.pair (.int .i64) .unit)) (.pair .str (.pair (.sl false (.pair (.pair (.int .i64) (.pair (.int .i64) .unit)) (.pair (.int .i64) (.pair (.int .i64) .unit)))) (.pair .bool .unit))))))))))))), (.v 29 false .bool)], [(.o 4 80020004 false (.int .u8))]⟩

def cut80000000_79_1008 : Cut := ⟨[(.q 1 true (.pair (.int .i64) (.pair (.pair (.int .i64) (.pair (.int .i64) .unit)) (.pair (.int .i64) (.pair (.pair (.int .i64) (.pair (.int .i64) .unit)) (.pair (.pair (.int .i64) (.pair (.int .i64) .unit)) (.pair .str (.pair (.pair (.int .i64) (.pair (.int .i64) .unit)) (.pair (.pair (.pair (.int .i64) (.pair (.int .i64) .unit)) (.pair (.int .i64) .unit)) (.pair (.pair (.pair (.int .i64) (.pair (.int .i64) .unit)) (.pair (.int .i64) .unit)) (.pair .str (.pair (.sl false (.pair (.pair (.int .i64) (.pair (.int .i64) .unit)) (.pair (.int .i64) (.pair (.int .i64) .unit)))) (.pair .bool .unit))))))))))))), (.v 42 false .bool)], [(.o 4 80020004 false (.int .u8))]⟩

def cut80000000_79_1012 : Cut := ⟨[(.q 1 true (.pair (.int .i64) (.pair (.pair (.int .i64) (.pair (.int .i64) .unit)) (.pair (.int .i64) (.pair (.pair (.int .i64) (.pair (.int .i64) .unit)) (.pair (.pair (.int .i64) (.pair (.int .i64) .unit)) (.pair .str (.pair (.pair (.int .i64) (.pair (.int .i64) .unit)) (.pair (.pair (.pair (.int .i64) (.pair (.int .i64) .unit)) (.pair (.int .i64) .unit)) (.pair (.pair (.pair (.int .i64) (.pair (.int .i64) .unit)) (.pair (.int .i64) .unit)) (.pair .str (.pair (.sl false (.pair (.pair (.int .i64) (.pair (.int .i64) .unit)) (.pair (.int .i64) (.pair (.int .i64) .unit)))) (.pair .bool .unit))))))))))))), (.v 70 false .bool)], [(.o 4 80020004 false (.int .u8))]⟩

def cut80000000_79_1015 : Cut := ⟨[(.q 1 true (.pair (.int .i64) (.pair (.pair (.int .i64) (.pair (.int .i64) .unit)) (.pair (.int .i64) (.pair (.pair (.int .i64) (.pair (.int .i64) .unit)) (.pair (.pair (.int .i64) (.pair (.int .i64) .unit)) (.pair .str (.pair (.pair (.int .i64) (.pair (.int .i64) .unit)) (.pair (.pair (.pair (.int .i64) (.pair (.int .i64) .unit)) (.pair (.int .i64) .unit)) (.pair (.pair (.pair (.int .i64) (.pair (.int .i64) .unit)) (.pair (.int .i64) .unit)) (.pair .str (.pair (.sl false (.pair (.pair (.int .i64) (.pair (.int .i64) .unit)) (.pair (.int .i64) (.pair (.int .i64) .unit)))) (.pair .bool .unit))))))))))))), (.v 83 false .bool)], [(.o 4 80020004 false (.int .u8))]⟩

def cut80000000_79_1017 : Cut := ⟨[(.q 1 true (.pair (.int .i64) (.pair (.pair (.int .i64) (.pair (.int .i64) .unit)) (.pair (.int .i64) (.pair (.pair (.int .i64) (.pair (.int .i64) .unit)) (.pair (.pair (.int .i64) (.pair (.int .i64) .unit)) (.pair .str (.pair (.pair (.int .i64) (.pair (.int .i64) .unit)) (.pair (.pair (.pair (.int .i64) (.pair (.int .i64) .unit)) (.pair (.int .i64) .unit)) (.pair (.pair (.pair (.int .i64) (.pair (.int .i64) .unit)) (.pair (.int .i64) .unit)) (.pair .str (.pair (.sl false (.pair (.pair (.int .i64) (.pair (.int .i64) .unit)) (.pair (.int .i64) (.pair (.int .i64) .unit)))) (.pair .bool .unit))))))))))))), (.v 91 false .bool)], [(.o 4 80020004 false (.int .u8))]⟩

def cut80000000_79_1025 : Cut := ⟨[(.q 1 true (.pair (.int .i64) (.pair (.pair (.int .i64) (.pair (.int .i64) .unit)) (.pair (.int .i64) (.pair (.pair (.int .i64) (.pair (.int .i64) .unit)) (.pair (.pair (.int .i64) (.pair (.int .i64) .unit)) (.pair .str (.pair (.pair (.int .i64) (.pair (.int .i64) .unit)) (.pair (.pair (.pair (.int .i64) (.pair (.int .i64) .unit)) (.pair (.int .i64) .unit)) (.pair (.pair (.pair (.int .i64) (.pair (.int .i64) .unit)) (.pair (.int .i64) .unit)) (.pair .str (.pair (.sl false (.pair (.pair (.int .i64) (.pair (.int .i64) .unit)) (.pair (.int .i64) (.pair (.int .i64) .unit)))) (.pair .bool .unit))))))))))))), (.v 134 false .bool)], [(.o 4 80020004 false (.int .u8))]⟩

def cut80000000_79_1027 : Cut := ⟨[(.v 136 false .bool)], [(.t 6 false (.int .i64))]⟩

def cut81000000_80_0 : Cut := ⟨[(.v 0 false .str)], [(.o 3 81020003 false (.int .u8)), (.t 5 false (.int .i64))]⟩

def cut82000000_81_0 : Cut := ⟨[(.c 0 (.p 0 [])), (.v 19 true (.sl true (.pair .str (.pair (.pair (.int .i64) (.pair (.int .i64) .unit)) .unit)))), (.v 20 false (.int .i64))], [(.t 21 false (.int .i64)), (.r 0 true (.pair (.ref false (.pair (.map true (.pair (.int .i64) (.pair (.int .i64) .unit)) (.pair (.pair (.int .i64) (.pair (.int .i64) .unit)) (.pair .str .unit))) (.pair (.map true (.pair (.int .i64) (.pair (.int .i64) .unit)) (.sl true (.pair .str (.pair (.pair (.int .i64) (.pair (.int .i64) .unit)) .unit)))) .unit))) (.pair (.map true (.pair (.int .i64) (.pair (.int .i64) .unit)) (.int .i64)) (.pair (.sl true (.pair (.int .i64) (.pair (.int .i64) .unit))) .unit))) (.pair (.ref false (.pair (.map true (.pair (.int .i64) (.pair (.int .i64) .unit)) (.pair (.pair (.int .i64) (.pair (.int .i64) .unit)) (.pair .str .unit))) (.pair (.map true (.pair (.int .i64) (.pair (.int .i64) .unit)) (.sl true (.pair .str (.pair (.pair (.int .i64) (.pair (.int .i64) .unit)) .unit)))) .unit))) (.pair (.map true (.pair (.int .i64) (.pair (.int .i64) .unit)) (.int .i64)) (.pair (.sl true (.pair (.int .i64) (.pair (.int .i64) .unit))) .unit))))]⟩

def cut87000000_86_0 : Cut := ⟨[(.v 0 false (.int .i64)), (.v 4 false (.int .i64)), (.c 5 (.sf 87000016)), (.v 18 false (.int .i64))], [(.t 19 false (.int .i64)), (.a 87000016 false (.int .u8))]⟩

def cut96000000_95_0 : Cut := ⟨[(.v 0 true (.sl false (.pair (.int .i64) (.pair (.int .i64) .unit)))), (.q 3 true (.pair (.int .i64) (.pair (.int .i64) .unit))), (.v 7 false (.int .i64))], [(.t 4 false (.int .i64)), (.t 8 false (.int .i64))]⟩

def cut98000000_97_0 : Cut := ⟨[(.v 0 false (.int .i64))], [(.t 4 false (.int .i64)), (.t 5 false (.int .i64))]⟩

def cut98000000_97_2 : Cut := ⟨[(.c 6 (.sf 98000024))], [(.t 0 false (.int .i64)), (.t 7 false (.int .i64)), (.a 98000024 false (.int .u8))]⟩

def cut98000000_97_4 : Cut := ⟨[(.v 4 false (.int .i64))], [(.t 8 false (.int .i64)), (.t 9 false (.int .i64))]⟩

def annT : List (Nat × List (Nat × List (Nat × Cut))) := [(4000000, [(3, [(0, cut4000000_3_0)])]),
   (5000000, [(4, [(0, cut5000000_4_0)])]),
   (8000000, [(7, [(0, cut8000000_7_0), (2, cut8000000_7_2)])]),
   (12000000, [(11, [(0, cut12000000_11_0)])]),
   (17000000, [(16, [(0, cut17000000_16_0)])]),
   (20000000, [(19, [(0, cut20000000_19_0)])]),
   (22000000, [(21, [(0, cut22000000_21_0)])]),
   (26000000, [(25, [(0, cut26000000_25_0)])]),
   (27000000, [(26, [(0, cut27000000_26_0)])]),
   (28000000, [(27, [(0, cut28000000_27_0)])]),
   (29000000, [(28, [(0, cut29000000_28_0)])]),
   (30000000, [(29, [(0, cut30000000_29_0)])]),
   (32000000, [(31, [(0, cut32000000_31_0)])]),
   (34000000, [(33, [(0, cut34000000_33_0), (2, cut34000000_33_2)])]),
   (35000000, [(34, [(0, cut35000000_34_0)])]),
   (37000000, [(36, [(0, cut37000000_36_0), (1006, cut37000000_36_1006), (1008, cut37000000_36_1008), (1012, cut37000000_36_1012), (1015, cut37000000_36_1015), (1017, cut37000000_36_1017), (1026, cut37000000_36_1026)])]),
   (38000000, [(37, [(0, cut38000000_37_0)])]),
   (39000000, [(38, [(0, cut39000000_38_0)])]),
   (40000000, [(39, [(0, cut40000000_39_0)])]),
   (41000000, [(40, [(0, cut41000000_40_0)])]),
   (42000000, [(41, [(0, cut42000000_41_0)])]),
   (55000000, [(54, [(0, cut55000000_54_0)])]),
   (58000000, [(57, [(1, cut58000000_57_1)])]),
   (66000000, [(65, [(1, cut66000000_65_1)])]),
   (68000000, [(67, [(0, cut68000000_67_0)])]),
   (71000000, [(70, [(0, cut71000000_70_0), (2, cut71000000_70_2)])]),
   (75000000, [(74, [(0, cut75000000_74_0), (1, cut75000000_74_1)])]),
   (76000000, [(75, [(0, cut76000000_75_0)])]),
   (80000000, [(79, [(0, cut80000000_79_0), (1006, cut80000000_79_1006), (1008, cut80000000_79_1008), (1012, cut80000000_79_1012), (1015, cut80000000_79_1015), (1017, cut80000000_79_1017), (1025, cut80000000_79_1025), (1027, cut80000000_79_1027)])]),
   (81000000, [(80, [(0, cut81000000_80_0)])]),
   (82000000, [(81, [(0, cut82000000_81_0)])]),
   (87000000, [(86, [(0, cut87000000_86_0)])]),
   (96000000, [(95, [(0, cut96000000_95_0)])]),
   (98000000, [(97, [(0, cut98000000_97_0), (2, cut98000000_97_2), (4, cut98000000_97_4)])]),
   (111000000, [(110, [(0, cut111000000_110_0)])]),
   (16045000000, [(49, [(0, cut16045000000_49_0)])]),
   (47020000000, [(82, [(0, cut47020000000_82_0)])]),
   (61063008000000, [(114, [(0, cut61063008000000_114_0)])])]

def handT : List (Nat × HandE) := [(47, hIns ychild 32), (48, hDel ychild), (117, hCmp)]

noncomputable def E0 : Env := mkEnv Tryd.prog tyT tyF sigT inlT annT prim0 glob0 [(36, [1006, 1008, 1012, 1015, 1017, 1026]), (74, [0]), (79, [1006, 1008, 1012, 1015, 1017, 1025, 1027])] handT

noncomputable def codeOf (f id : Nat) : Code := match Tryd.prog.funcs[f]? with
  | some F => (match F.body with | some c => (findX id c).getD .skip | none => .skip)
  | none => .skip

noncomputable def rvOf (f : Nat) : List ResultVar := match Tryd.prog.funcs[f]? with
  | some F => F.results.toList
  | none => []

end Go.Proofs.YtkfikongenapfaaDoor.E

namespace Go.Proofs.YtkfikongenapfaaDoor.E
open Go
set_option linter.unusedVariables false
set_option maxRecDepth 100000
end Go.Proofs.YtkfikongenapfaaDoor.E

namespace Go.Proofs.YtkfikongenapfaaDoor.E
open Go
set_option linter.unusedSimpArgs false
set_option linter.unusedVariables false
/-! reading the forms -/
theorem br_t {R : Type} {c : Bool} {a b : Option R} (h : c = true) : br c a b = a := by rw [h]; rfl

theorem br_f {R : Type} {c : Bool} {a b : Option R} (h : c = false) : br c a b = b := by rw [h]; rfl

@[simp] theorem br_true {R : Type} {a b : Option R} : br true a b = a := rfl
@[simp] theorem br_false {R : Type} {a b : Option R} : br false a b = b := rfl
@[simp] theorem bd_s {A R : Type} {x : A} {f : A → Option R} : bd (some x) f = f x := rfl
@[simp] theorem bdL_b {Q X B R : Type} {b : X} {f : X → Option R} {g : Nat → X → Option R} {h : Q → B → Option R} : bdL (some (LO.brk b)) f g h = f b := rfl
@[simp] theorem bdL_r {Q X B R : Type} {q : Q} {b : B} {f : X → Option R} {g : Nat → X → Option R} {h : Q → B → Option R} : bdL (some (LO.ret q b)) f g h = h q b := rfl
theorem inB_t {i : Int} {n : Nat} (h : 0 ≤ i ∧ i < n) : inB i n = true := inB_iff.2 h

/-- bytes -/
def Byt (l : List Int) : Prop := ∀ x ∈ l, 0 ≤ x ∧ x ≤ 255

end Go.Proofs.YtkfikongenapfaaDoor.E

namespace Go.Proofs.YtkfikongenapfaaDoor.E
open Go
set_option linter.unusedSimpArgs false
set_option linter.unusedVariables false
/-- how many bits a number has -/
def bl (n : Nat) : Nat := if n = 0 then 0 else n.log2 + 1

/-- how many bytes a number has -/
def sz (n : Nat) : Nat := max 1 ((bl n + 6) / 7)

end Go.Proofs.YtkfikongenapfaaDoor.E

namespace Go.Proofs.YtkfikongenapfaaDoor.E
open Go
set_option linter.unusedSimpArgs false
set_option linter.unusedVariables false
end Go.Proofs.YtkfikongenapfaaDoor.E

namespace Go.Proofs.YtkfikongenapfaaDoor.E
open Go
set_option linter.unusedSimpArgs false
set_option linter.unusedVariables false
end Go.Proofs.YtkfikongenapfaaDoor.E

namespace Go.Proofs.YtkfikongenapfaaDoor.E
open Go
set_option linter.unusedSimpArgs false
set_option linter.unusedVariables false
/-- the bytes of a number behind the first -/
def val (n : Int) (l : List Int) : Int := l.foldl (fun n x => n * 256 + x) n

end Go.Proofs.YtkfikongenapfaaDoor.E

namespace Go.Proofs.YtkfikongenapfaaDoor.E
open Go
set_option linter.unusedSimpArgs false
set_option linter.unusedVariables false
end Go.Proofs.YtkfikongenapfaaDoor.E

namespace Go.Proofs.YtkfikongenapfaaDoor.E
open Go
set_option linter.unusedSimpArgs false
set_option linter.unusedVariables false
end Go.Proofs.YtkfikongenapfaaDoor.E

namespace Go.Proofs.YtkfikongenapfaaDoor.E
open Go
set_option linter.unusedSimpArgs false
set_option linter.unusedVariables false
end Go.Proofs.YtkfikongenapfaaDoor.E

namespace Go.Proofs.YtkfikongenapfaaDoor.E
open Go
set_option linter.unusedSimpArgs false
set_option linter.unusedVariables false
theorem Byt.append {a b : List Int} (ha : Byt a) (hb : Byt b) : Byt (a ++ b) := fun x hx => by
  rcases List.mem_append.1 hx with h | h
  · exact ha x h
  · exact hb x h

theorem Byt.take {a : List Int} (ha : Byt a) (n : Nat) : Byt (a.take n) := fun x hx => ha x (List.mem_of_mem_take hx)

end Go.Proofs.YtkfikongenapfaaDoor.E

namespace Go.Proofs.YtkfikongenapfaaDoor.E
open Go
set_option linter.unusedSimpArgs false
set_option linter.unusedVariables false
end Go.Proofs.YtkfikongenapfaaDoor.E

namespace Go.Proofs.YtkfikongenapfaaDoor.E
open Go
set_option linter.unusedSimpArgs false
set_option linter.unusedVariables false
end Go.Proofs.YtkfikongenapfaaDoor.E

namespace Go.Proofs.YtkfikongenapfaaDoor.E
open Go
set_option linter.unusedVariables false
set_option maxRecDepth 100000
noncomputable def F_stampRightOp (k : Nat) (a0 : TId) : Option (((Bool) × (Unit)) × (Unit)) := fnE E0 k 43 (a0, ())

noncomputable def F_stampRightBlock (k : Nat) (a0 : TId) : Option (((Bool) × (Unit)) × (Unit)) := fnE E0 k 44 (a0, ())

noncomputable def F_fracRight (k : Nat) (a0 : List (UInt8)) : Option (((Bool) × (Unit)) × (Unit)) := fnE E0 k 45 (a0, ())

noncomputable def F_ref04Right (k : Nat) (a0 : List (UInt8)) : Option (((Bool) × (Unit)) × (Unit)) := fnE E0 k 51 (a0, ())

theorem F_stampRightOp_step (k : Nat) (a0 : TId) : F_stampRightOp (k + 1) a0 =
  (some (((cond (cond (cond (decide (a0.1 ≥ (0 : Int))) (decide (a0.1 < (16 : Int))) false) (decide (a0.2.1 ≥ (1 : Int))) false) (decide (a0.2.1 ≤ (1048576 : Int))) false), ()), ())) := by kernel_rfl

theorem F_stampRightBlock_step (k : Nat) (a0 : TId) : F_stampRightBlock (k + 1) a0 =
  (br (cond (denEq (.pair (.int .i64) (.pair (.int .i64) .unit)) a0 ((0 : Int), ((0 : Int), ()))) true (denEq (.pair (.int .i64) (.pair (.int .i64) .unit)) a0 ((1 : Int), ((0 : Int), ()))))
   (some ((true, ()), ()))
   (bd (F_stampRightOp k a0) (fun (r : ((Bool) × (Unit)) × (Unit)) => (some ((r.1.1, ()), ()))))) := by kernel_rfl

theorem F_fracRight_step (k : Nat) (a0 : List (UInt8)) : F_fracRight (k + 1) a0 =
  (br (cond (!(a0 == ([] : List UInt8))) (decide ((((List.length a0) : Nat) : Int) ≤ (32 : Int))) false)
   (br (inB (IntKind.wrap (IntKind.i64) ((((List.length a0) : Nat) : Int) - (1 : Int))) (List.length a0))
    (some (((cond true ((((UInt8.toNat (List.getD a0 (Int.toNat (IntKind.wrap (IntKind.i64) ((((List.length a0) : Nat) : Int) - (1 : Int)))) (0 : UInt8))) : Nat) : Int) != (0 : Int)) false), ()), ()))
    none)
   (some ((false, ()), ()))) := by kernel_rfl

theorem F_ref04Right_step (k : Nat) (a0 : List (UInt8)) : F_ref04Right (k + 1) a0 =
  (br (cond (decide ((((List.length a0) : Nat) : Int) ≥ (1 : Int))) (decide ((((List.length a0) : Nat) : Int) ≤ (32 : Int))) false)
   (br (inB (IntKind.wrap (IntKind.i64) ((((List.length a0) : Nat) : Int) - (1 : Int))) (List.length a0))
    (some (((cond true ((((UInt8.toNat (List.getD a0 (Int.toNat (IntKind.wrap (IntKind.i64) ((((List.length a0) : Nat) : Int) - (1 : Int)))) (0 : UInt8))) : Nat) : Int) != (0 : Int)) false), ()), ()))
    none)
   (some ((false, ()), ()))) := by kernel_rfl

end Go.Proofs.YtkfikongenapfaaDoor.E

namespace Go.Proofs.YtkfikongenapfaaDoor.E
open Go
set_option linter.unusedSimpArgs false
set_option linter.unusedVariables false
/-! small words -/
@[simp] theorem cond_f (x y : Bool) : cond x y false = (x && y) := by cases x <;> rfl
@[simp] theorem cond_t (x y : Bool) : cond x true y = (x || y) := by cases x <;> rfl
theorem i_in {i n : Nat} (h : i < n) : inB (i : Int) n = true := inB_t ⟨by omega, by omega⟩

theorem cast_ne (n : Nat) : (((n : Nat) : Int) != 0) = !(n == 0) := by cases n <;> simp <;> omega

theorem denEq_iff : ∀ {t : Ty} {a b : den t}, eqTy t = true → (denEq t a b = true ↔ a = b)
  | .int _, a, b, _ => by simp [denEq]
  | .bool, a, b, _ => by
    show boolEq a b = true ↔ a = b
    cases a <;> cases b <;> simp [boolEq]
  | .str, a, b, _ => by
    show (a == b) = true ↔ a = b
    simp
  | .unit, a, b, _ => by simp [denEq]
  | .pair s t, a, b, h => by
    simp only [eqTy, Bool.and_eq_true] at h
    simp only [denEq, Bool.and_eq_true]
    rw [denEq_iff h.1, denEq_iff h.2]
    exact Prod.ext_iff.symm
  | .arr _ _, _, _, h | .sl _ _, _, _, h | .ptr _ _, _, _, h | .ref _ _, _, _, h | .map _ _ _, _, _, h | .hole _, _, _, h | .raw _ _, _, _, h | .nils, _, _, h | .nilp, _, _, h => by simp [eqTy] at h

theorem dec_of {p : Prop} [Decidable p] {b : Bool} (h : b = true ↔ p) : b = decide p := by
  cases b with
  | true => simp [h.1 rfl]
  | false => symm; simp; exact fun hp => by have := h.2 hp; cases this

@[simp] theorem eqI (a b : TId) : denEq (.pair (.int .i64) (.pair (.int .i64) .unit)) a b = decide (a = b) := dec_of (denEq_iff rfl)
@[simp] theorem eqC (a b : TChar) : denEq (.pair (.pair (.int .i64) (.pair (.int .i64) .unit)) (.pair (.int .i64) .unit)) a b = decide (a = b) := dec_of (denEq_iff rfl)
@[simp] theorem eqK (a b : TCut) : denEq (.pair (.pair (.int .i64) (.pair (.int .i64) .unit)) (.pair (.int .i64) (.pair (.int .i64) .unit))) a b = decide (a = b) := dec_of (denEq_iff rfl)
/-! what is right -/
def rightOp (i : TId) : Bool := decide (i.1 ≥ 0) && decide (i.1 < 16) && decide (i.2.1 ≥ 1) && decide (i.2.1 ≤ 1048576)

def rightBlock (i : TId) : Bool := decide (i = (0, 0, ())) || decide (i = (1, 0, ())) || rightOp i

def rightKey (k : List UInt8) : Bool := !(k == []) && decide (k.length ≤ 32) && !((List.getD k (k.length - 1) 0).toNat == 0)

theorem F_stampRightOp_eq (k : Nat) (i : TId) : F_stampRightOp (k + 1) i = some ((rightOp i, ()), ()) := by
  rw [F_stampRightOp_step]; simp [rightOp]

theorem F_stampRightBlock_eq (k : Nat) (i : TId) : F_stampRightBlock (k + 2) i = some ((rightBlock i, ()), ()) := by
  rw [F_stampRightBlock_step, F_stampRightOp_eq]
  simp only [bd_s, eqI, cond_t, rightBlock]
  by_cases h : (decide (i = (0, 0, ())) || decide (i = (1, 0, ()))) = true
  · rw [br_t h, h]; rfl
  · rw [br_f (by simpa using h)]
    have : (decide (i = (0, 0, ())) || decide (i = (1, 0, ()))) = false := by simpa using h
    rw [this]; rfl

theorem F_fracRight_eq (k : Nat) (s : List UInt8) : F_fracRight (k + 1) s = some ((rightKey s, ()), ()) := by
  rw [F_fracRight_step]
  simp only [cond_f, Bool.cond_true, rightKey]
  by_cases h : s = []
  · subst h; simp
  · have hl : 0 < s.length := List.length_pos_iff.2 h
    have hs : (s == []) = false := by simp [h]
    by_cases h2 : s.length ≤ 32
    · rw [br_t (by simp [hs]; omega)]
      have hw : IntKind.i64.wrap ((s.length : Int) - 1) = ((s.length - 1 : Nat) : Int) := by
        rw [IntWalk.i64_in _ ⟨by omega, by omega⟩]; omega
      rw [hw, br_t (i_in (by omega)), Int.toNat_natCast]
      simp [hs, h2, cast_ne]
    · rw [br_f (by simp; omega)]
      simp [hs, h2]

theorem F_ref04Right_eq (k : Nat) (s : List UInt8) : F_ref04Right (k + 1) s = some ((rightKey s, ()), ()) := by
  rw [F_ref04Right_step]
  simp only [cond_f, Bool.cond_true, rightKey]
  by_cases h : s = []
  · subst h; simp
  · have hl : 0 < s.length := List.length_pos_iff.2 h
    have hs : (s == []) = false := by simp [h]
    by_cases h2 : s.length ≤ 32
    · rw [br_t (by simp; omega)]
      have hw : IntKind.i64.wrap ((s.length : Int) - 1) = ((s.length - 1 : Nat) : Int) := by
        rw [IntWalk.i64_in _ ⟨by omega, by omega⟩]; omega
      rw [hw, br_t (i_in (by omega)), Int.toNat_natCast]
      simp [hs, h2, cast_ne]
    · rw [br_f (by simp; omega)]
      simp [hs, h2]

/-! parts -/
def parts (k : Int) : List Int :=
  if k = 1 then [2] else if k = 2 then [0, 2] else if k = 3 then [1, 3] else if k = 4 then [4] else if k = 5 then [1, 2] else if k = 6 then [0, 5] else []

def bare (o : TOp) : TOp := (o.1, o.2.1, o.2.2.1, (0, 0, ()), (0, 0, ()), [], (0, 0, ()), ((0, 0, ()), 0, ()), ((0, 0, ()), 0, ()), [], [], false, ())

end Go.Proofs.YtkfikongenapfaaDoor.E

namespace Go.Proofs.YtkfikongenapfaaDoor.E
open Go
set_option linter.unusedSimpArgs false
set_option linter.unusedVariables false
/-! what is put -/
end Go.Proofs.YtkfikongenapfaaDoor.E

namespace Go.Proofs.YtkfikongenapfaaDoor.E
open Go
set_option linter.unusedSimpArgs false
set_option linter.unusedVariables false
/-! what is taken -/
end Go.Proofs.YtkfikongenapfaaDoor.E

namespace Go.Proofs.YtkfikongenapfaaDoor.E
open Go
set_option linter.unusedVariables false
set_option maxRecDepth 100000
abbrev TKids := (List ((TId) × (TPlace))) × ((List ((TId) × (List (TChild)))) × (Unit))

noncomputable def F_stringsCompare (k : Nat) (a0 : List (UInt8)) (a1 : List (UInt8)) : Option (((Int) × (Unit)) × (Unit)) := fnE E0 k 117 (a0, a1, ())

noncomputable def F_slicesInsertkidschild (k : Nat) (a0 : List (TChild)) (a1 : Int) (a2 : List (TChild)) : Option (((List (TChild)) × (Unit)) × (Unit)) := fnE E0 k 47 (a0, a1, a2, ())

noncomputable def F_slicesDeletekidschild (k : Nat) (a0 : List (TChild)) (a1 : Int) (a2 : Int) : Option (((List (TChild)) × (Unit)) × (Unit)) := fnE E0 k 48 (a0, a1, a2, ())

theorem F_stringsCompare_step (k : Nat) (a0 : List (UInt8)) (a1 : List (UInt8)) : F_stringsCompare (k + 1) a0 a1 = some ((Lib.compareBytes a0 a1, ()), ()) := by kernel_rfl

theorem F_slicesInsertkidschild_step (k : Nat) (a0 : List (TChild)) (a1 : Int) (a2 : List (TChild)) : F_slicesInsertkidschild (k + 1) a0 a1 a2 =
  br (leB a1 (List.length a0) && decide ((List.length a0 + List.length a2) * 32 ≤ 140737488355328)) (some ((List.take a1.toNat a0 ++ a2 ++ List.drop a1.toNat a0, ()), ())) none := by kernel_rfl

theorem F_slicesDeletekidschild_step (k : Nat) (a0 : List (TChild)) (a1 : Int) (a2 : Int) : F_slicesDeletekidschild (k + 1) a0 a1 a2 =
  br (decide (0 ≤ a1) && decide (a1 ≤ a2) && leB a2 (List.length a0) && decide (0 < List.length a0) && decide (List.length a0 ≤ 140737488355328)) (some ((List.take a1.toNat a0 ++ List.drop a2.toNat a0, ()), ())) none := by kernel_rfl

end Go.Proofs.YtkfikongenapfaaDoor.E

namespace Go.Proofs.YtkfikongenapfaaDoor.E
open Go
set_option linter.unusedVariables false
set_option maxRecDepth 100000
noncomputable def F_cmpisNaNint (k : Nat) (a0 : Int) : Option (((Bool) × (Unit)) × (Unit)) := fnE E0 k 123 (a0, ())

noncomputable def F_cmpOrint (k : Nat) (a0 : List (Int)) : Option (((Int) × (Unit)) × (Unit)) := fnE E0 k 110 (a0, ())

noncomputable def F_cmpCompareint (k : Nat) (a0 : Int) (a1 : Int) : Option (((Int) × (Unit)) × (Unit)) := fnE E0 k 118 (a0, a1, ())

noncomputable def F_stampOrderIds (k : Nat) (a0 : TId) (a1 : TId) : Option (((Int) × (Unit)) × (Unit)) := fnE E0 k 112 (a0, a1, ())

noncomputable def F_fracOrder (k : Nat) (a0 : List (UInt8)) (a1 : List (UInt8)) : Option (((Int) × (Unit)) × (Unit)) := fnE E0 k 111 (a0, a1, ())

noncomputable def F_kidsorder (k : Nat) (a0 : TChild) (a1 : TChild) : Option (((Int) × (Unit)) × (Unit)) := fnE E0 k 83 (a0, a1, ())

noncomputable def F_kidsKidsfind (k : Nat) (a0 : TKids) (a1 : TId) (a2 : TPlace) : Option (((Int) × ((Bool) × (Unit))) × (Unit)) := fnE E0 k 46 (a0, a1, a2, ())

noncomputable def F_kidsKidsIndex (k : Nat) (a0 : TKids) (a1 : TId) : Option (((Int) × ((Bool) × (Unit))) × (Unit)) := fnE E0 k 20 (a0, a1, ())

noncomputable def F_kidsKidsnear (k : Nat) (a0 : TKids) (a1 : TId) (a2 : Int) : Option (((TId) × ((Bool) × (Unit))) × (Unit)) := fnE E0 k 52 (a0, a1, a2, ())

noncomputable def F_kidsNew (k : Nat)  : Option (((TKids) × (Unit)) × (Unit)) := fnE E0 k 12 ()

theorem F_cmpisNaNint_step (k : Nat) (a0 : Int) : F_cmpisNaNint (k + 1) a0 =
  (some (((a0 != a0), ()), ())) := by kernel_rfl

noncomputable def L_cmpOrint_0 (k : Nat) (s0 : Int) (s1 : List (Int)) (s2 : Int) : Nat → TId → Option (LO ((Int) × (Unit)) (TId) (Unit)) :=
  loopF true 0 18 111000000 110 cut111000000_110_0 (s0, s1, s2, ()) (fun σ K => bodyAt E0 (fnE E0 k) (inl5 E0 (fnE E0 k) k) 110 (rvOf 110) k (codeOf 110 0) _ σ K)

theorem L_cmpOrint_0_step (k m : Nat) (s0 : Int) (s1 : List (Int)) (s2 : Int) (x0 : Int) (x1 : Int) : L_cmpOrint_0 k s0 s1 s2 (m + 1) (x0, x1, ()) =
  (br (decide (x1 < s2))
   (br (inB x1 (List.length s1))
    (br ((List.getD s1 (Int.toNat x1) (0 : Int)) != s0)
     (some (.ret ((List.getD s1 (Int.toNat x1) (0 : Int)), ()) ()))
     (L_cmpOrint_0 k s0 s1 s2 m (x0, ((IntKind.wrap (IntKind.i64) (x1 + (1 : Int))), ()))))
    none)
   (some (.brk (x0, (x1, ()))))) := by kernel_rfl

theorem F_cmpOrint_step (k : Nat) (a0 : List (Int)) : F_cmpOrint (k + 1) a0 =
  (bdL (L_cmpOrint_0 k (0 : Int) a0 (((List.length a0) : Nat) : Int) k ((0 : Int), ((0 : Int), ())))
   (fun (b : TId) => (some (((0 : Int), ()), ())))
   (fun (j : Nat) => (fun (b : TId) => none))
   (fun (q : (Int) × (Unit)) => (fun (b : Unit) => (some (q, ()))))) := by kernel_rfl

theorem F_cmpCompareint_step (k : Nat) (a0 : Int) (a1 : Int) : F_cmpCompareint (k + 1) a0 a1 =
  (bd (F_cmpisNaNint k a0) (fun (r : ((Bool) × (Unit)) × (Unit)) => (bd (F_cmpisNaNint k a1) (fun (r1 : ((Bool) × (Unit)) × (Unit)) => (br r.1.1
     (br r1.1.1
      (some (((0 : Int), ()), ()))
      (some (((-1 : Int), ()), ())))
     (br r1.1.1
      (some (((1 : Int), ()), ()))
      (br (decide (a0 < a1))
       (some (((-1 : Int), ()), ()))
       (br (decide (a0 > a1))
        (some (((1 : Int), ()), ()))
        (some (((0 : Int), ()), ())))))))))) := by kernel_rfl

theorem F_stampOrderIds_step (k : Nat) (a0 : TId) (a1 : TId) : F_stampOrderIds (k + 1) a0 a1 =
  (bd (F_cmpCompareint k a0.1 a1.1) (fun (r : ((Int) × (Unit)) × (Unit)) => (bd (F_cmpCompareint k a0.2.1 a1.2.1) (fun (r1 : ((Int) × (Unit)) × (Unit)) => (bd (F_cmpOrint k (r.1.1 :: (r1.1.1 :: ([] : List (Int))))) (fun (r2 : ((Int) × (Unit)) × (Unit)) => (some ((r2.1.1, ()), ())))))))) :=
 (show F_stampOrderIds (k + 1) a0 a1 =
  (both
   (bd (F_cmpCompareint k a0.1 a1.1) (fun (r : ((Int) × (Unit)) × (Unit)) => (bd (F_cmpCompareint k a0.2.1 a1.2.1) (fun (r1 : ((Int) × (Unit)) × (Unit)) => (bd (F_cmpOrint k (r.1.1 :: (r1.1.1 :: ([] : List (Int))))) (fun (r2 : ((Int) × (Unit)) × (Unit)) => (some ((r2.1.1, ()), ()))))))))
   (both
    (both
     (bd (F_cmpCompareint k a0.1 a1.1) (fun (r : ((Int) × (Unit)) × (Unit)) => (bd (F_cmpCompareint k a0.2.1 a1.2.1) (fun (r1 : ((Int) × (Unit)) × (Unit)) => (bd (F_cmpOrint k (r.1.1 :: (r1.1.1 :: ([] : List (Int))))) (fun (r2 : ((Int) × (Unit)) × (Unit)) => (some ((r2.1.1, ()), ()))))))))
     (bd (F_cmpCompareint k a0.1 a1.1) (fun (r : ((Int) × (Unit)) × (Unit)) => (bd (F_cmpCompareint k a0.2.1 a1.2.1) (fun (r1 : ((Int) × (Unit)) × (Unit)) => (bd (F_cmpOrint k (r.1.1 :: (r1.1.1 :: ([] : List (Int))))) (fun (r2 : ((Int) × (Unit)) × (Unit)) => (some ((r2.1.1, ()), ())))))))))
    (both
     (bd (F_cmpCompareint k a0.1 a1.1) (fun (r : ((Int) × (Unit)) × (Unit)) => (bd (F_cmpCompareint k a0.2.1 a1.2.1) (fun (r1 : ((Int) × (Unit)) × (Unit)) => (bd (F_cmpOrint k (r.1.1 :: (r1.1.1 :: ([] : List (Int))))) (fun (r2 : ((Int) × (Unit)) × (Unit)) => (some ((r2.1.1, ()), ()))))))))
     (bd (F_cmpCompareint k a0.1 a1.1) (fun (r : ((Int) × (Unit)) × (Unit)) => (bd (F_cmpCompareint k a0.2.1 a1.2.1) (fun (r1 : ((Int) × (Unit)) × (Unit)) => (bd (F_cmpOrint k (r.1.1 :: (r1.1.1 :: ([] : List (Int))))) (fun (r2 : ((Int) × (Unit)) × (Unit)) => (some ((r2.1.1, ()), ()))))))))))) by kernel_rfl).trans (by simp only [both_self])

theorem F_fracOrder_step (k : Nat) (a0 : List (UInt8)) (a1 : List (UInt8)) : F_fracOrder (k + 1) a0 a1 =
  (bd (F_stringsCompare k a0 a1) (fun (r : ((Int) × (Unit)) × (Unit)) => (some ((r.1.1, ()), ())))) := by kernel_rfl

theorem F_kidsorder_step (k : Nat) (a0 : TChild) (a1 : TChild) : F_kidsorder (k + 1) a0 a1 =
  (bd (F_fracOrder k a0.1 a1.1) (fun (r : ((Int) × (Unit)) × (Unit)) => (bd (F_stampOrderIds k a0.2.1 a1.2.1) (fun (r1 : ((Int) × (Unit)) × (Unit)) => (bd (F_cmpOrint k (r.1.1 :: (r1.1.1 :: ([] : List (Int))))) (fun (r2 : ((Int) × (Unit)) × (Unit)) => (some ((r2.1.1, ()), ())))))))) :=
 (show F_kidsorder (k + 1) a0 a1 =
  (both
   (bd (F_fracOrder k a0.1 a1.1) (fun (r : ((Int) × (Unit)) × (Unit)) => (bd (F_stampOrderIds k a0.2.1 a1.2.1) (fun (r1 : ((Int) × (Unit)) × (Unit)) => (bd (F_cmpOrint k (r.1.1 :: (r1.1.1 :: ([] : List (Int))))) (fun (r2 : ((Int) × (Unit)) × (Unit)) => (some ((r2.1.1, ()), ()))))))))
   (both
    (both
     (bd (F_fracOrder k a0.1 a1.1) (fun (r : ((Int) × (Unit)) × (Unit)) => (bd (F_stampOrderIds k a0.2.1 a1.2.1) (fun (r1 : ((Int) × (Unit)) × (Unit)) => (bd (F_cmpOrint k (r.1.1 :: (r1.1.1 :: ([] : List (Int))))) (fun (r2 : ((Int) × (Unit)) × (Unit)) => (some ((r2.1.1, ()), ()))))))))
     (bd (F_fracOrder k a0.1 a1.1) (fun (r : ((Int) × (Unit)) × (Unit)) => (bd (F_stampOrderIds k a0.2.1 a1.2.1) (fun (r1 : ((Int) × (Unit)) × (Unit)) => (bd (F_cmpOrint k (r.1.1 :: (r1.1.1 :: ([] : List (Int))))) (fun (r2 : ((Int) × (Unit)) × (Unit)) => (some ((r2.1.1, ()), ())))))))))
    (both
     (bd (F_fracOrder k a0.1 a1.1) (fun (r : ((Int) × (Unit)) × (Unit)) => (bd (F_stampOrderIds k a0.2.1 a1.2.1) (fun (r1 : ((Int) × (Unit)) × (Unit)) => (bd (F_cmpOrint k (r.1.1 :: (r1.1.1 :: ([] : List (Int))))) (fun (r2 : ((Int) × (Unit)) × (Unit)) => (some ((r2.1.1, ()), ()))))))))
     (bd (F_fracOrder k a0.1 a1.1) (fun (r : ((Int) × (Unit)) × (Unit)) => (bd (F_stampOrderIds k a0.2.1 a1.2.1) (fun (r1 : ((Int) × (Unit)) × (Unit)) => (bd (F_cmpOrint k (r.1.1 :: (r1.1.1 :: ([] : List (Int))))) (fun (r2 : ((Int) × (Unit)) × (Unit)) => (some ((r2.1.1, ()), ()))))))))))) by kernel_rfl).trans (by simp only [both_self])

noncomputable def L_kidsKidsfind_19_slicesBinarySearchFunckidschild_0 (k : Nat) (s0 : List (TChild)) (s1 : Unit) (s2 : TChild) : Nat → TId → Option (LO ((Int) × ((Bool) × (Unit))) (TId) (Unit)) :=
  loopF true 0 49 47020000000 82 cut47020000000_82_0 (s0, s1, s2, ()) (fun σ K => bodyAt E0 (fnE E0 k) (inl4 E0 (fnE E0 k) k) 82 (rvOf 82) k (codeOf 82 0) _ σ K)

theorem L_kidsKidsfind_19_slicesBinarySearchFunckidschild_0_step (k m : Nat) (s0 : List (TChild)) (s1 : Unit) (s2 : TChild) (x0 : Int) (x1 : Int) : L_kidsKidsfind_19_slicesBinarySearchFunckidschild_0 k s0 s1 s2 (m + 1) (x0, x1, ()) =
  (br (decide (x0 < x1))
   (br (inB (IntKind.wrap (IntKind.i64) (Int.fdiv (IntKind.wrap (IntKind.u64) (IntKind.wrap (IntKind.i64) (x0 + x1))) (2 : Int))) (List.length s0))
    (bd (F_kidsorder k (List.getD s0 (Int.toNat (IntKind.wrap (IntKind.i64) (Int.fdiv (IntKind.wrap (IntKind.u64) (IntKind.wrap (IntKind.i64) (x0 + x1))) (2 : Int)))) (([] : List (UInt8)), (((0 : Int), ((0 : Int), ())), ()))) s2) (fun (r : ((Int) × (Unit)) × (Unit)) => (br (decide (r.1.1 < (0 : Int)))
      (L_kidsKidsfind_19_slicesBinarySearchFunckidschild_0 k s0 s1 s2 m ((IntKind.wrap (IntKind.i64) ((IntKind.wrap (IntKind.i64) (Int.fdiv (IntKind.wrap (IntKind.u64) (IntKind.wrap (IntKind.i64) (x0 + x1))) (2 : Int))) + (1 : Int))), (x1, ())))
      (L_kidsKidsfind_19_slicesBinarySearchFunckidschild_0 k s0 s1 s2 m (x0, ((IntKind.wrap (IntKind.i64) (Int.fdiv (IntKind.wrap (IntKind.u64) (IntKind.wrap (IntKind.i64) (x0 + x1))) (2 : Int))), ()))))))
    none)
   (some (.brk (x0, (x1, ()))))) := by kernel_rfl

theorem F_kidsKidsfind_step (k : Nat) (a0 : TKids) (a1 : TId) (a2 : TPlace) : F_kidsKidsfind (k + 1) a0 a1 a2 =
  (bdL (L_kidsKidsfind_19_slicesBinarySearchFunckidschild_0 k (Option.getD (mfind (denEq (.pair (.int .i64) (.pair (.int .i64) .unit))) a0.2.1 a2.1) ([] : List (TChild))) () (a2.2.1, (a1, ())) k ((0 : Int), ((((List.length (Option.getD (mfind (denEq (.pair (.int .i64) (.pair (.int .i64) .unit))) a0.2.1 a2.1) ([] : List (TChild)))) : Nat) : Int), ())))
   (fun (b : TId) => (br (boolEq (decide (b.1 < (((List.length (Option.getD (mfind (denEq (.pair (.int .i64) (.pair (.int .i64) .unit))) a0.2.1 a2.1) ([] : List (TChild)))) : Nat) : Int))) true)
    (br (inB b.1 (List.length (Option.getD (mfind (denEq (.pair (.int .i64) (.pair (.int .i64) .unit))) a0.2.1 a2.1) ([] : List (TChild)))))
     (bd (F_kidsorder k (List.getD (Option.getD (mfind (denEq (.pair (.int .i64) (.pair (.int .i64) .unit))) a0.2.1 a2.1) ([] : List (TChild))) (Int.toNat b.1) (([] : List (UInt8)), (((0 : Int), ((0 : Int), ())), ()))) (a2.2.1, (a1, ()))) (fun (r : ((Int) × (Unit)) × (Unit)) => (some ((b.1, ((cond true (r.1.1 == (0 : Int)) false), ())), ()))))
     none)
    (some ((b.1, (false, ())), ()))))
   (fun (j : Nat) => (fun (b : TId) => none))
   (fun (q : (Int) × ((Bool) × (Unit))) => (fun (b : Unit) => (some ((q.1, (q.2.1, ())), ()))))) := by kernel_rfl

theorem F_kidsKidsIndex_step (k : Nat) (a0 : TKids) (a1 : TId) : F_kidsKidsIndex (k + 1) a0 a1 =
  (br (!(Option.isSome (mfind (denEq (.pair (.int .i64) (.pair (.int .i64) .unit))) a0.1 a1)))
   (some (((0 : Int), (false, ())), ()))
   (bd (F_kidsKidsfind k a0 a1 (Option.getD (mfind (denEq (.pair (.int .i64) (.pair (.int .i64) .unit))) a0.1 a1) (((0 : Int), ((0 : Int), ())), (([] : List (UInt8)), ())))) (fun (r : ((Int) × ((Bool) × (Unit))) × (Unit)) => (some ((r.1.1, (r.1.2.1, ())), ()))))) := by kernel_rfl

theorem F_kidsKidsnear_step (k : Nat) (a0 : TKids) (a1 : TId) (a2 : Int) : F_kidsKidsnear (k + 1) a0 a1 a2 =
  (bd (F_kidsKidsIndex k a0 a1) (fun (r : ((Int) × ((Bool) × (Unit))) × (Unit)) => (br (!r.1.2.1)
    (some ((((0 : Int), ((0 : Int), ())), (false, ())), ()))
    (br (cond (decide ((IntKind.wrap (IntKind.i64) (r.1.1 + a2)) < (0 : Int))) true (decide ((IntKind.wrap (IntKind.i64) (r.1.1 + a2)) ≥ (((List.length (Option.getD (mfind (denEq (.pair (.int .i64) (.pair (.int .i64) .unit))) a0.2.1 (Option.getD (mfind (denEq (.pair (.int .i64) (.pair (.int .i64) .unit))) a0.1 a1) (((0 : Int), ((0 : Int), ())), (([] : List (UInt8)), ()))).1) ([] : List (TChild)))) : Nat) : Int))))
     (some ((((0 : Int), ((0 : Int), ())), (false, ())), ()))
     (br (inB (IntKind.wrap (IntKind.i64) (r.1.1 + a2)) (List.length (Option.getD (mfind (denEq (.pair (.int .i64) (.pair (.int .i64) .unit))) a0.2.1 (Option.getD (mfind (denEq (.pair (.int .i64) (.pair (.int .i64) .unit))) a0.1 a1) (((0 : Int), ((0 : Int), ())), (([] : List (UInt8)), ()))).1) ([] : List (TChild)))))
      (some (((List.getD (Option.getD (mfind (denEq (.pair (.int .i64) (.pair (.int .i64) .unit))) a0.2.1 (Option.getD (mfind (denEq (.pair (.int .i64) (.pair (.int .i64) .unit))) a0.1 a1) (((0 : Int), ((0 : Int), ())), (([] : List (UInt8)), ()))).1) ([] : List (TChild))) (Int.toNat (IntKind.wrap (IntKind.i64) (r.1.1 + a2))) (([] : List (UInt8)), (((0 : Int), ((0 : Int), ())), ()))).2.1, (true, ())), ()))
      none))))) := by kernel_rfl

theorem F_kidsNew_step (k : Nat)  : F_kidsNew (k + 1)  =
  (some (((([] : List ((TId) × (TPlace))), (([] : List ((TId) × (List (TChild)))), ())), ()), ())) := by kernel_rfl

end Go.Proofs.YtkfikongenapfaaDoor.E

namespace Go.Proofs.YtkfikongenapfaaDoor.E
open Go
set_option linter.unusedVariables false
set_option maxRecDepth 100000
noncomputable def F_kidsKidsAhead (k : Nat) (a0 : TKids) (a1 : TId) : Option (((TId) × ((Bool) × (Unit))) × (Unit)) := fnE E0 k 17 (a0, a1, ())

noncomputable def F_kidsKidsPlace (k : Nat) (a0 : TKids) (a1 : TId) : Option (((TPlace) × ((Bool) × (Unit))) × (Unit)) := fnE E0 k 18 (a0, a1, ())

noncomputable def F_kidsKidsList (k : Nat) (a0 : TKids) (a1 : TId) : Option (((List (TId)) × (Unit)) × (Unit)) := fnE E0 k 19 (a0, a1, ())

noncomputable def F_kidsKidsBehind (k : Nat) (a0 : TKids) (a1 : TId) : Option (((TId) × ((Bool) × (Unit))) × (Unit)) := fnE E0 k 22 (a0, a1, ())

noncomputable def F_ref00Texts (k : Nat) (a0 : List (UInt8)) (a1 : List (UInt8)) : Option (((Int) × (Unit)) × (Unit)) := fnE E0 k 21 (a0, a1, ())

noncomputable def F_law14great (k : Nat) (a0 : List (TCall)) : Option (((Bool) × (Unit)) × (Unit)) := fnE E0 k 11 (a0, ())

noncomputable def F_kidswalkerbelow (k : Nat) (a0 : (TKids) × ((List ((TId) × (Int))) × ((List (TId)) × (Unit)))) (a1 : TId) : Option ((Unit) × (((TKids) × ((List ((TId) × (Int))) × ((List (TId)) × (Unit)))) × (Unit))) := fnE E0 k 81 (a0, a1, ())

noncomputable def F_kidsKidsWalk (k : Nat) (a0 : TKids) (a1 : TId) : Option (((List (TId)) × (Unit)) × (Unit)) := fnE E0 k 42 (a0, a1, ())

theorem F_kidsKidsAhead_step (k : Nat) (a0 : TKids) (a1 : TId) : F_kidsKidsAhead (k + 1) a0 a1 =
  (bd (F_kidsKidsnear k a0 a1 (-1 : Int)) (fun (r : ((TId) × ((Bool) × (Unit))) × (Unit)) => (some ((r.1.1, (r.1.2.1, ())), ())))) := by kernel_rfl

theorem F_kidsKidsPlace_step (k : Nat) (a0 : TKids) (a1 : TId) : F_kidsKidsPlace (k + 1) a0 a1 =
  (some (((Option.getD (mfind (denEq (.pair (.int .i64) (.pair (.int .i64) .unit))) a0.1 a1) (((0 : Int), ((0 : Int), ())), (([] : List (UInt8)), ()))), ((Option.isSome (mfind (denEq (.pair (.int .i64) (.pair (.int .i64) .unit))) a0.1 a1)), ())), ())) := by kernel_rfl

theorem F_kidsKidsBehind_step (k : Nat) (a0 : TKids) (a1 : TId) : F_kidsKidsBehind (k + 1) a0 a1 =
  (bd (F_kidsKidsnear k a0 a1 (1 : Int)) (fun (r : ((TId) × ((Bool) × (Unit))) × (Unit)) => (some ((r.1.1, (r.1.2.1, ())), ())))) := by kernel_rfl

noncomputable def L_ref00Texts_0 (k : Nat) (s0 : List (UInt8)) (s1 : List (UInt8)) : Nat → TId → Option (LO ((Int) × (Unit)) (TId) (Unit)) :=
  loopF true 0 42 22000000 21 cut22000000_21_0 (s0, s1, ()) (fun σ K => bodyAt E0 (fnE E0 k) (inl5 E0 (fnE E0 k) k) 21 (rvOf 21) k (codeOf 21 0) _ σ K)

theorem L_ref00Texts_0_step (k m : Nat) (s0 : List (UInt8)) (s1 : List (UInt8)) (x0 : Int) (x1 : Int) : L_ref00Texts_0 k s0 s1 (m + 1) (x0, x1, ()) =
  (br (cond (decide (x1 < (((List.length s0) : Nat) : Int))) (decide (x1 < (((List.length s1) : Nat) : Int))) false)
   (br (inB x1 (List.length s0))
    (br (inB x1 (List.length s1))
     (br ((((UInt8.toNat (List.getD s0 (Int.toNat x1) (0 : UInt8))) : Nat) : Int) != (((UInt8.toNat (List.getD s1 (Int.toNat x1) (0 : UInt8))) : Nat) : Int))
      (br (inB x1 (List.length s0))
       (br (inB x1 (List.length s1))
        (br (decide ((((UInt8.toNat (List.getD s0 (Int.toNat x1) (0 : UInt8))) : Nat) : Int) < (((UInt8.toNat (List.getD s1 (Int.toNat x1) (0 : UInt8))) : Nat) : Int)))
         (some (.ret ((-1 : Int), ()) ()))
         (some (.ret ((1 : Int), ()) ())))
        none)
       none)
      (L_ref00Texts_0 k s0 s1 m (x0, ((IntKind.wrap (IntKind.i64) (x1 + (1 : Int))), ()))))
     none)
    none)
   (some (.brk (x0, (x1, ()))))) := by kernel_rfl

theorem F_ref00Texts_step (k : Nat) (a0 : List (UInt8)) (a1 : List (UInt8)) : F_ref00Texts (k + 1) a0 a1 =
  (bdL (L_ref00Texts_0 k a0 a1 k ((0 : Int), ((0 : Int), ())))
   (fun (b : TId) => (br (decide ((((List.length a0) : Nat) : Int) < (((List.length a1) : Nat) : Int)))
    (some (((-1 : Int), ()), ()))
    (br (decide ((((List.length a0) : Nat) : Int) > (((List.length a1) : Nat) : Int)))
     (some (((1 : Int), ()), ()))
     (some (((0 : Int), ()), ())))))
   (fun (j : Nat) => (fun (b : TId) => none))
   (fun (q : (Int) × (Unit)) => (fun (b : Unit) => (some (q, ()))))) := by kernel_rfl

noncomputable def L_law14great_0 (k : Nat) (s0 : List (TCall)) : Nat → (Bool) × ((Int) × (Unit)) → Option (LO ((Bool) × (Unit)) ((Bool) × ((Int) × (Unit))) (Unit)) :=
  loopF true 0 21 12000000 11 cut12000000_11_0 (s0, ()) (fun σ K => bodyAt E0 (fnE E0 k) (inl5 E0 (fnE E0 k) k) 11 (rvOf 11) k (codeOf 11 0) _ σ K)

theorem L_law14great_0_step (k m : Nat) (s0 : List (TCall)) (x0 : Bool) (x1 : Int) : L_law14great_0 k s0 (m + 1) (x0, x1, ()) =
  (br (decide (x1 < (((List.length s0) : Nat) : Int)))
   (br (inB x1 (List.length s0))
    (br (decide ((((List.length (List.getD s0 (Int.toNat x1) ((0 : Int), (((0 : Int), ((0 : Int), ())), ((((0 : Int), ((0 : Int), ())), (([] : List (UInt8)), ())), ())))).2.2.1.2.1) : Nat) : Int) > (200 : Int)))
     (some (.ret (true, ()) ()))
     (L_law14great_0 k s0 m (x0, ((IntKind.wrap (IntKind.i64) (x1 + (1 : Int))), ()))))
    none)
   (some (.brk (x0, (x1, ()))))) := by kernel_rfl

theorem F_law14great_step (k : Nat) (a0 : List (TCall)) : F_law14great (k + 1) a0 =
  (br (decide ((((List.length a0) : Nat) : Int) > (60 : Int)))
   (some ((true, ()), ()))
   (bdL (L_law14great_0 k a0 k (false, ((0 : Int), ())))
    (fun (b : (Bool) × ((Int) × (Unit))) => (some ((false, ()), ())))
    (fun (j : Nat) => (fun (b : (Bool) × ((Int) × (Unit))) => none))
    (fun (q : (Bool) × (Unit)) => (fun (b : Unit) => (some (q, ())))))) := by kernel_rfl

noncomputable def L_kidswalkerbelow_0 (k : Nat) (s0 : Unit) (s1 : List (TChild)) (s2 : Int) : Nat → (Int) × (((TKids) × ((List ((TId) × (Int))) × ((List (TId)) × (Unit)))) × (Unit)) → Option (LO (Unit) ((Int) × (((TKids) × ((List ((TId) × (Int))) × ((List (TId)) × (Unit)))) × (Unit))) (((TKids) × ((List ((TId) × (Int))) × ((List (TId)) × (Unit)))) × (Unit))) :=
  loopF true 0 49 82000000 81 cut82000000_81_0 (s0, s1, s2, ()) (fun σ K => bodyAt E0 (fnE E0 k) (inl5 E0 (fnE E0 k) k) 81 (rvOf 81) k (codeOf 81 0) _ σ K)

theorem L_kidswalkerbelow_0_step (k m : Nat) (s0 : Unit) (s1 : List (TChild)) (s2 : Int) (x0 : Int) (x1 : (TKids) × ((List ((TId) × (Int))) × ((List (TId)) × (Unit)))) : L_kidswalkerbelow_0 k s0 s1 s2 (m + 1) (x0, x1, ()) =
  (br (decide (x0 < s2))
   (br (inB x0 (List.length s1))
    (br ((Option.getD (mfind (denEq (.pair (.int .i64) (.pair (.int .i64) .unit))) x1.2.1 (List.getD s1 (Int.toNat x0) (([] : List (UInt8)), (((0 : Int), ((0 : Int), ())), ()))).2.1) (0 : Int)) == (0 : Int))
     (br (decide ((((List.length x1.2.2.1) + (List.length ((List.getD s1 (Int.toNat x0) (([] : List (UInt8)), (((0 : Int), ((0 : Int), ())), ()))).2.1 :: ([] : List (TId))))) * (16 : Nat)) ≤ (140737488355328 : Nat)))
      (bd (F_kidswalkerbelow k (x1.1, (x1.2.1, ((x1.2.2.1 ++ ((List.getD s1 (Int.toNat x0) (([] : List (UInt8)), (((0 : Int), ((0 : Int), ())), ()))).2.1 :: ([] : List (TId)))), x1.2.2.2))) (List.getD s1 (Int.toNat x0) (([] : List (UInt8)), (((0 : Int), ((0 : Int), ())), ()))).2.1) (fun (r : (Unit) × (((TKids) × ((List ((TId) × (Int))) × ((List (TId)) × (Unit)))) × (Unit))) => (L_kidswalkerbelow_0 k s0 s1 s2 m ((IntKind.wrap (IntKind.i64) (x0 + (1 : Int))), (r.2.1, ())))))
      none)
     (L_kidswalkerbelow_0 k s0 s1 s2 m ((IntKind.wrap (IntKind.i64) (x0 + (1 : Int))), (x1, ()))))
    none)
   (some (.brk (x0, (x1, ()))))) := by kernel_rfl

theorem F_kidswalkerbelow_step (k : Nat) (a0 : (TKids) × ((List ((TId) × (Int))) × ((List (TId)) × (Unit)))) (a1 : TId) : F_kidswalkerbelow (k + 1) a0 a1 =
  (bdL (L_kidswalkerbelow_0 k () (Option.getD (mfind (denEq (.pair (.int .i64) (.pair (.int .i64) .unit))) a0.1.2.1 a1) ([] : List (TChild))) (((List.length (Option.getD (mfind (denEq (.pair (.int .i64) (.pair (.int .i64) .unit))) a0.1.2.1 a1) ([] : List (TChild)))) : Nat) : Int) k ((0 : Int), ((a0.1, ((mput (denEq (.pair (.int .i64) (.pair (.int .i64) .unit))) a0.2.1 a1 (1 : Int)), a0.2.2)), ())))
    (fun (b : (Int) × (((TKids) × ((List ((TId) × (Int))) × ((List (TId)) × (Unit)))) × (Unit))) => (some ((), (b.2.1, ()))))
    (fun (j : Nat) => (fun (b : (Int) × (((TKids) × ((List ((TId) × (Int))) × ((List (TId)) × (Unit)))) × (Unit))) => none))
    (fun (q : Unit) => (fun (b : ((TKids) × ((List ((TId) × (Int))) × ((List (TId)) × (Unit)))) × (Unit)) => (some (q, (b.1, ())))))) :=
 (show F_kidswalkerbelow (k + 1) a0 a1 =
  (both
   (bdL (L_kidswalkerbelow_0 k () (Option.getD (mfind (denEq (.pair (.int .i64) (.pair (.int .i64) .unit))) a0.1.2.1 a1) ([] : List (TChild))) (((List.length (Option.getD (mfind (denEq (.pair (.int .i64) (.pair (.int .i64) .unit))) a0.1.2.1 a1) ([] : List (TChild)))) : Nat) : Int) k ((0 : Int), ((a0.1, ((mput (denEq (.pair (.int .i64) (.pair (.int .i64) .unit))) a0.2.1 a1 (1 : Int)), a0.2.2)), ())))
    (fun (b : (Int) × (((TKids) × ((List ((TId) × (Int))) × ((List (TId)) × (Unit)))) × (Unit))) => (some ((), (b.2.1, ()))))
    (fun (j : Nat) => (fun (b : (Int) × (((TKids) × ((List ((TId) × (Int))) × ((List (TId)) × (Unit)))) × (Unit))) => none))
    (fun (q : Unit) => (fun (b : ((TKids) × ((List ((TId) × (Int))) × ((List (TId)) × (Unit)))) × (Unit)) => (some (q, (b.1, ()))))))
   (bdL (L_kidswalkerbelow_0 k () (Option.getD (mfind (denEq (.pair (.int .i64) (.pair (.int .i64) .unit))) a0.1.2.1 a1) ([] : List (TChild))) (((List.length (Option.getD (mfind (denEq (.pair (.int .i64) (.pair (.int .i64) .unit))) a0.1.2.1 a1) ([] : List (TChild)))) : Nat) : Int) k ((0 : Int), ((a0.1, ((mput (denEq (.pair (.int .i64) (.pair (.int .i64) .unit))) a0.2.1 a1 (1 : Int)), a0.2.2)), ())))
    (fun (b : (Int) × (((TKids) × ((List ((TId) × (Int))) × ((List (TId)) × (Unit)))) × (Unit))) => (some ((), (b.2.1, ()))))
    (fun (j : Nat) => (fun (b : (Int) × (((TKids) × ((List ((TId) × (Int))) × ((List (TId)) × (Unit)))) × (Unit))) => none))
    (fun (q : Unit) => (fun (b : ((TKids) × ((List ((TId) × (Int))) × ((List (TId)) × (Unit)))) × (Unit)) => (some (q, (b.1, ()))))))) by kernel_rfl).trans (by simp only [both_self])

theorem F_kidsKidsWalk_step (k : Nat) (a0 : TKids) (a1 : TId) : F_kidsKidsWalk (k + 1) a0 a1 =
  (bd (F_kidswalkerbelow k (a0, (([] : List ((TId) × (Int))), (([] : List (TId)), ()))) a1) (fun (r : (Unit) × (((TKids) × ((List ((TId) × (Int))) × ((List (TId)) × (Unit)))) × (Unit))) => (some ((r.2.1.2.2.1, ()), ())))) := by kernel_rfl

end Go.Proofs.YtkfikongenapfaaDoor.E

namespace Go.Proofs.YtkfikongenapfaaDoor.E
open Go
set_option linter.unusedVariables false
set_option maxRecDepth 100000
noncomputable def F_kidsKidsSet (k : Nat) (a0 : TKids) (a1 : TId) (a2 : TPlace) : Option (((Int) × (Unit)) × ((TKids) × (Unit))) := fnE E0 k 13 (a0, a1, a2, ())

noncomputable def F_kidsKidsDrop (k : Nat) (a0 : TKids) (a1 : TId) : Option (((Bool) × (Unit)) × ((TKids) × (Unit))) := fnE E0 k 14 (a0, a1, ())

noncomputable def F_kidsKidsGap (k : Nat) (a0 : TKids) (a1 : TId) (a2 : TId) : Option (((List (UInt8)) × ((List (UInt8)) × ((Int) × (Unit)))) × (Unit)) := fnE E0 k 15 (a0, a1, a2, ())

noncomputable def F_ref04Between (k : Nat) (a0 : List (UInt8)) (a1 : List (UInt8)) : Option (((List (UInt8)) × ((Int) × (Unit))) × (Unit)) := fnE E0 k 16 (a0, a1, ())

noncomputable def F_law14alive (k : Nat)  : Option (((Bool) × (Unit)) × (Unit)) := fnE E0 k 10 ()

noncomputable def F_law14KidsNew (k : Nat) (a0 : List (TCall)) (a1 : TId) (a2 : TId) : Option (((Bool) × (Unit)) × (Unit)) := fnE E0 k 3 (a0, a1, a2, ())

theorem F_kidsKidsSet_step (k : Nat) (a0 : TKids) (a1 : TId) (a2 : TPlace) : F_kidsKidsSet (k + 1) a0 a1 a2 =
  (bd (F_stampRightOp k a1) (fun (r : ((Bool) × (Unit)) × (Unit)) => (br (!r.1.1)
    (some (((10 : Int), ()), (a0, ())))
    (bd (F_stampRightBlock k a2.1) (fun (r1 : ((Bool) × (Unit)) × (Unit)) => (br (cond false true (!r1.1.1))
      (some (((10 : Int), ()), (a0, ())))
      (bd (F_fracRight k a2.2.1) (fun (r2 : ((Bool) × (Unit)) × (Unit)) => (br (cond (cond false true (!r2.1.1)) true (denEq (.pair (.int .i64) (.pair (.int .i64) .unit)) a1 a2.1))
        (some (((10 : Int), ()), (a0, ())))
        (bd (F_kidsKidsDrop k a0 a1) (fun (r3 : ((Bool) × (Unit)) × ((TKids) × (Unit))) => (bd (F_kidsKidsfind k r3.2.1 a1 a2) (fun (r4 : ((Int) × ((Bool) × (Unit))) × (Unit)) => (bd (F_slicesInsertkidschild k (Option.getD (mfind (denEq (.pair (.int .i64) (.pair (.int .i64) .unit))) r3.2.1.2.1 a2.1) ([] : List (TChild))) r4.1.1 ((a2.2.1, (a1, ())) :: ([] : List (TChild)))) (fun (r5 : ((List (TChild)) × (Unit)) × (Unit)) => (br (denEq (.pair (.int .i64) (.pair (.int .i64) .unit)) a2.1 a2.1)
              (some (((0 : Int), ()), (((mput (denEq (.pair (.int .i64) (.pair (.int .i64) .unit))) r3.2.1.1 a1 a2), ((mput (denEq (.pair (.int .i64) (.pair (.int .i64) .unit))) r3.2.1.2.1 a2.1 r5.1.1), r3.2.1.2.2)), ())))
              none)))))))))))))))) :=
 (show F_kidsKidsSet (k + 1) a0 a1 a2 =
  (bd (F_stampRightOp k a1) (fun (r : ((Bool) × (Unit)) × (Unit)) => (br (!r.1.1)
    (some (((10 : Int), ()), (a0, ())))
    (bd (F_stampRightBlock k a2.1) (fun (r1 : ((Bool) × (Unit)) × (Unit)) => (br (cond false true (!r1.1.1))
      (some (((10 : Int), ()), (a0, ())))
      (bd (F_fracRight k a2.2.1) (fun (r2 : ((Bool) × (Unit)) × (Unit)) => (br (cond (cond false true (!r2.1.1)) true (denEq (.pair (.int .i64) (.pair (.int .i64) .unit)) a1 a2.1))
        (some (((10 : Int), ()), (a0, ())))
        (bd (F_kidsKidsDrop k a0 a1) (fun (r3 : ((Bool) × (Unit)) × ((TKids) × (Unit))) => (bd (F_kidsKidsfind k r3.2.1 a1 a2) (fun (r4 : ((Int) × ((Bool) × (Unit))) × (Unit)) => (both
           (both
            (bd (F_slicesInsertkidschild k (Option.getD (mfind (denEq (.pair (.int .i64) (.pair (.int .i64) .unit))) r3.2.1.2.1 a2.1) ([] : List (TChild))) r4.1.1 ((a2.2.1, (a1, ())) :: ([] : List (TChild)))) (fun (r5 : ((List (TChild)) × (Unit)) × (Unit)) => (br (denEq (.pair (.int .i64) (.pair (.int .i64) .unit)) a2.1 a2.1)
              (some (((0 : Int), ()), (((mput (denEq (.pair (.int .i64) (.pair (.int .i64) .unit))) r3.2.1.1 a1 a2), ((mput (denEq (.pair (.int .i64) (.pair (.int .i64) .unit))) r3.2.1.2.1 a2.1 r5.1.1), r3.2.1.2.2)), ())))
              none)))
            (both
             (bd (F_slicesInsertkidschild k (Option.getD (mfind (denEq (.pair (.int .i64) (.pair (.int .i64) .unit))) r3.2.1.2.1 a2.1) ([] : List (TChild))) r4.1.1 ((a2.2.1, (a1, ())) :: ([] : List (TChild)))) (fun (r5 : ((List (TChild)) × (Unit)) × (Unit)) => (br (denEq (.pair (.int .i64) (.pair (.int .i64) .unit)) a2.1 a2.1)
               (some (((0 : Int), ()), (((mput (denEq (.pair (.int .i64) (.pair (.int .i64) .unit))) r3.2.1.1 a1 a2), ((mput (denEq (.pair (.int .i64) (.pair (.int .i64) .unit))) r3.2.1.2.1 a2.1 r5.1.1), r3.2.1.2.2)), ())))
               none)))
             (both
              (bd (F_slicesInsertkidschild k (Option.getD (mfind (denEq (.pair (.int .i64) (.pair (.int .i64) .unit))) r3.2.1.2.1 a2.1) ([] : List (TChild))) r4.1.1 ((a2.2.1, (a1, ())) :: ([] : List (TChild)))) (fun (r5 : ((List (TChild)) × (Unit)) × (Unit)) => (br (denEq (.pair (.int .i64) (.pair (.int .i64) .unit)) a2.1 a2.1)
                (some (((0 : Int), ()), (((mput (denEq (.pair (.int .i64) (.pair (.int .i64) .unit))) r3.2.1.1 a1 a2), ((mput (denEq (.pair (.int .i64) (.pair (.int .i64) .unit))) r3.2.1.2.1 a2.1 r5.1.1), r3.2.1.2.2)), ())))
                none)))
              (bd (F_slicesInsertkidschild k (Option.getD (mfind (denEq (.pair (.int .i64) (.pair (.int .i64) .unit))) r3.2.1.2.1 a2.1) ([] : List (TChild))) r4.1.1 ((a2.2.1, (a1, ())) :: ([] : List (TChild)))) (fun (r5 : ((List (TChild)) × (Unit)) × (Unit)) => (br (denEq (.pair (.int .i64) (.pair (.int .i64) .unit)) a2.1 a2.1)
                (some (((0 : Int), ()), (((mput (denEq (.pair (.int .i64) (.pair (.int .i64) .unit))) r3.2.1.1 a1 a2), ((mput (denEq (.pair (.int .i64) (.pair (.int .i64) .unit))) r3.2.1.2.1 a2.1 r5.1.1), r3.2.1.2.2)), ())))
                none))))))
           (both
            (both
             (bd (F_slicesInsertkidschild k (Option.getD (mfind (denEq (.pair (.int .i64) (.pair (.int .i64) .unit))) r3.2.1.2.1 a2.1) ([] : List (TChild))) r4.1.1 ((a2.2.1, (a1, ())) :: ([] : List (TChild)))) (fun (r5 : ((List (TChild)) × (Unit)) × (Unit)) => (br (denEq (.pair (.int .i64) (.pair (.int .i64) .unit)) a2.1 a2.1)
               (some (((0 : Int), ()), (((mput (denEq (.pair (.int .i64) (.pair (.int .i64) .unit))) r3.2.1.1 a1 a2), ((mput (denEq (.pair (.int .i64) (.pair (.int .i64) .unit))) r3.2.1.2.1 a2.1 r5.1.1), r3.2.1.2.2)), ())))
               none)))
             (both
              (bd (F_slicesInsertkidschild k (Option.getD (mfind (denEq (.pair (.int .i64) (.pair (.int .i64) .unit))) r3.2.1.2.1 a2.1) ([] : List (TChild))) r4.1.1 ((a2.2.1, (a1, ())) :: ([] : List (TChild)))) (fun (r5 : ((List (TChild)) × (Unit)) × (Unit)) => (br (denEq (.pair (.int .i64) (.pair (.int .i64) .unit)) a2.1 a2.1)
                (some (((0 : Int), ()), (((mput (denEq (.pair (.int .i64) (.pair (.int .i64) .unit))) r3.2.1.1 a1 a2), ((mput (denEq (.pair (.int .i64) (.pair (.int .i64) .unit))) r3.2.1.2.1 a2.1 r5.1.1), r3.2.1.2.2)), ())))
                none)))
              (both
               (bd (F_slicesInsertkidschild k (Option.getD (mfind (denEq (.pair (.int .i64) (.pair (.int .i64) .unit))) r3.2.1.2.1 a2.1) ([] : List (TChild))) r4.1.1 ((a2.2.1, (a1, ())) :: ([] : List (TChild)))) (fun (r5 : ((List (TChild)) × (Unit)) × (Unit)) => (br (denEq (.pair (.int .i64) (.pair (.int .i64) .unit)) a2.1 a2.1)
                 (some (((0 : Int), ()), (((mput (denEq (.pair (.int .i64) (.pair (.int .i64) .unit))) r3.2.1.1 a1 a2), ((mput (denEq (.pair (.int .i64) (.pair (.int .i64) .unit))) r3.2.1.2.1 a2.1 r5.1.1), r3.2.1.2.2)), ())))
                 none)))
               (bd (F_slicesInsertkidschild k (Option.getD (mfind (denEq (.pair (.int .i64) (.pair (.int .i64) .unit))) r3.2.1.2.1 a2.1) ([] : List (TChild))) r4.1.1 ((a2.2.1, (a1, ())) :: ([] : List (TChild)))) (fun (r5 : ((List (TChild)) × (Unit)) × (Unit)) => (br (denEq (.pair (.int .i64) (.pair (.int .i64) .unit)) a2.1 a2.1)
                 (some (((0 : Int), ()), (((mput (denEq (.pair (.int .i64) (.pair (.int .i64) .unit))) r3.2.1.1 a1 a2), ((mput (denEq (.pair (.int .i64) (.pair (.int .i64) .unit))) r3.2.1.2.1 a2.1 r5.1.1), r3.2.1.2.2)), ())))
                 none))))))
            (both
             (both
              (bd (F_slicesInsertkidschild k (Option.getD (mfind (denEq (.pair (.int .i64) (.pair (.int .i64) .unit))) r3.2.1.2.1 a2.1) ([] : List (TChild))) r4.1.1 ((a2.2.1, (a1, ())) :: ([] : List (TChild)))) (fun (r5 : ((List (TChild)) × (Unit)) × (Unit)) => (br (denEq (.pair (.int .i64) (.pair (.int .i64) .unit)) a2.1 a2.1)
                (some (((0 : Int), ()), (((mput (denEq (.pair (.int .i64) (.pair (.int .i64) .unit))) r3.2.1.1 a1 a2), ((mput (denEq (.pair (.int .i64) (.pair (.int .i64) .unit))) r3.2.1.2.1 a2.1 r5.1.1), r3.2.1.2.2)), ())))
                none)))
              (both
               (bd (F_slicesInsertkidschild k (Option.getD (mfind (denEq (.pair (.int .i64) (.pair (.int .i64) .unit))) r3.2.1.2.1 a2.1) ([] : List (TChild))) r4.1.1 ((a2.2.1, (a1, ())) :: ([] : List (TChild)))) (fun (r5 : ((List (TChild)) × (Unit)) × (Unit)) => (br (denEq (.pair (.int .i64) (.pair (.int .i64) .unit)) a2.1 a2.1)
                 (some (((0 : Int), ()), (((mput (denEq (.pair (.int .i64) (.pair (.int .i64) .unit))) r3.2.1.1 a1 a2), ((mput (denEq (.pair (.int .i64) (.pair (.int .i64) .unit))) r3.2.1.2.1 a2.1 r5.1.1), r3.2.1.2.2)), ())))
                 none)))
               (bd (F_slicesInsertkidschild k (Option.getD (mfind (denEq (.pair (.int .i64) (.pair (.int .i64) .unit))) r3.2.1.2.1 a2.1) ([] : List (TChild))) r4.1.1 ((a2.2.1, (a1, ())) :: ([] : List (TChild)))) (fun (r5 : ((List (TChild)) × (Unit)) × (Unit)) => (br (denEq (.pair (.int .i64) (.pair (.int .i64) .unit)) a2.1 a2.1)
                 (some (((0 : Int), ()), (((mput (denEq (.pair (.int .i64) (.pair (.int .i64) .unit))) r3.2.1.1 a1 a2), ((mput (denEq (.pair (.int .i64) (.pair (.int .i64) .unit))) r3.2.1.2.1 a2.1 r5.1.1), r3.2.1.2.2)), ())))
                 none)))))
             (both
              (both
               (bd (F_slicesInsertkidschild k (Option.getD (mfind (denEq (.pair (.int .i64) (.pair (.int .i64) .unit))) r3.2.1.2.1 a2.1) ([] : List (TChild))) r4.1.1 ((a2.2.1, (a1, ())) :: ([] : List (TChild)))) (fun (r5 : ((List (TChild)) × (Unit)) × (Unit)) => (br (denEq (.pair (.int .i64) (.pair (.int .i64) .unit)) a2.1 a2.1)
                 (some (((0 : Int), ()), (((mput (denEq (.pair (.int .i64) (.pair (.int .i64) .unit))) r3.2.1.1 a1 a2), ((mput (denEq (.pair (.int .i64) (.pair (.int .i64) .unit))) r3.2.1.2.1 a2.1 r5.1.1), r3.2.1.2.2)), ())))
                 none)))
               (both
                (bd (F_slicesInsertkidschild k (Option.getD (mfind (denEq (.pair (.int .i64) (.pair (.int .i64) .unit))) r3.2.1.2.1 a2.1) ([] : List (TChild))) r4.1.1 ((a2.2.1, (a1, ())) :: ([] : List (TChild)))) (fun (r5 : ((List (TChild)) × (Unit)) × (Unit)) => (br (denEq (.pair (.int .i64) (.pair (.int .i64) .unit)) a2.1 a2.1)
                  (some (((0 : Int), ()), (((mput (denEq (.pair (.int .i64) (.pair (.int .i64) .unit))) r3.2.1.1 a1 a2), ((mput (denEq (.pair (.int .i64) (.pair (.int .i64) .unit))) r3.2.1.2.1 a2.1 r5.1.1), r3.2.1.2.2)), ())))
                  none)))
                (bd (F_slicesInsertkidschild k (Option.getD (mfind (denEq (.pair (.int .i64) (.pair (.int .i64) .unit))) r3.2.1.2.1 a2.1) ([] : List (TChild))) r4.1.1 ((a2.2.1, (a1, ())) :: ([] : List (TChild)))) (fun (r5 : ((List (TChild)) × (Unit)) × (Unit)) => (br (denEq (.pair (.int .i64) (.pair (.int .i64) .unit)) a2.1 a2.1)
                  (some (((0 : Int), ()), (((mput (denEq (.pair (.int .i64) (.pair (.int .i64) .unit))) r3.2.1.1 a1 a2), ((mput (denEq (.pair (.int .i64) (.pair (.int .i64) .unit))) r3.2.1.2.1 a2.1 r5.1.1), r3.2.1.2.2)), ())))
                  none)))))
              (both
               (both
                (bd (F_slicesInsertkidschild k (Option.getD (mfind (denEq (.pair (.int .i64) (.pair (.int .i64) .unit))) r3.2.1.2.1 a2.1) ([] : List (TChild))) r4.1.1 ((a2.2.1, (a1, ())) :: ([] : List (TChild)))) (fun (r5 : ((List (TChild)) × (Unit)) × (Unit)) => (br (denEq (.pair (.int .i64) (.pair (.int .i64) .unit)) a2.1 a2.1)
                  (some (((0 : Int), ()), (((mput (denEq (.pair (.int .i64) (.pair (.int .i64) .unit))) r3.2.1.1 a1 a2), ((mput (denEq (.pair (.int .i64) (.pair (.int .i64) .unit))) r3.2.1.2.1 a2.1 r5.1.1), r3.2.1.2.2)), ())))
                  none)))
                (bd (F_slicesInsertkidschild k (Option.getD (mfind (denEq (.pair (.int .i64) (.pair (.int .i64) .unit))) r3.2.1.2.1 a2.1) ([] : List (TChild))) r4.1.1 ((a2.2.1, (a1, ())) :: ([] : List (TChild)))) (fun (r5 : ((List (TChild)) × (Unit)) × (Unit)) => (br (denEq (.pair (.int .i64) (.pair (.int .i64) .unit)) a2.1 a2.1)
                  (some (((0 : Int), ()), (((mput (denEq (.pair (.int .i64) (.pair (.int .i64) .unit))) r3.2.1.1 a1 a2), ((mput (denEq (.pair (.int .i64) (.pair (.int .i64) .unit))) r3.2.1.2.1 a2.1 r5.1.1), r3.2.1.2.2)), ())))
                  none))))
               (both
                (both
                 (bd (F_slicesInsertkidschild k (Option.getD (mfind (denEq (.pair (.int .i64) (.pair (.int .i64) .unit))) r3.2.1.2.1 a2.1) ([] : List (TChild))) r4.1.1 ((a2.2.1, (a1, ())) :: ([] : List (TChild)))) (fun (r5 : ((List (TChild)) × (Unit)) × (Unit)) => (br (denEq (.pair (.int .i64) (.pair (.int .i64) .unit)) a2.1 a2.1)
                   (some (((0 : Int), ()), (((mput (denEq (.pair (.int .i64) (.pair (.int .i64) .unit))) r3.2.1.1 a1 a2), ((mput (denEq (.pair (.int .i64) (.pair (.int .i64) .unit))) r3.2.1.2.1 a2.1 r5.1.1), r3.2.1.2.2)), ())))
                   none)))
                 (bd (F_slicesInsertkidschild k (Option.getD (mfind (denEq (.pair (.int .i64) (.pair (.int .i64) .unit))) r3.2.1.2.1 a2.1) ([] : List (TChild))) r4.1.1 ((a2.2.1, (a1, ())) :: ([] : List (TChild)))) (fun (r5 : ((List (TChild)) × (Unit)) × (Unit)) => (br (denEq (.pair (.int .i64) (.pair (.int .i64) .unit)) a2.1 a2.1)
                   (some (((0 : Int), ()), (((mput (denEq (.pair (.int .i64) (.pair (.int .i64) .unit))) r3.2.1.1 a1 a2), ((mput (denEq (.pair (.int .i64) (.pair (.int .i64) .unit))) r3.2.1.2.1 a2.1 r5.1.1), r3.2.1.2.2)), ())))
                   none))))
                (bd (F_slicesInsertkidschild k (Option.getD (mfind (denEq (.pair (.int .i64) (.pair (.int .i64) .unit))) r3.2.1.2.1 a2.1) ([] : List (TChild))) r4.1.1 ((a2.2.1, (a1, ())) :: ([] : List (TChild)))) (fun (r5 : ((List (TChild)) × (Unit)) × (Unit)) => (br (denEq (.pair (.int .i64) (.pair (.int .i64) .unit)) a2.1 a2.1)
                  (some (((0 : Int), ()), (((mput (denEq (.pair (.int .i64) (.pair (.int .i64) .unit))) r3.2.1.1 a1 a2), ((mput (denEq (.pair (.int .i64) (.pair (.int .i64) .unit))) r3.2.1.2.1 a2.1 r5.1.1), r3.2.1.2.2)), ())))
                  none)))))))))))))))))))))) by kernel_rfl).trans (by simp only [both_self])

theorem F_kidsKidsDrop_step (k : Nat) (a0 : TKids) (a1 : TId) : F_kidsKidsDrop (k + 1) a0 a1 =
  (br (!(Option.isSome (mfind (denEq (.pair (.int .i64) (.pair (.int .i64) .unit))) a0.1 a1)))
   (some ((false, ()), (a0, ())))
   (bd (F_kidsKidsfind k a0 a1 (Option.getD (mfind (denEq (.pair (.int .i64) (.pair (.int .i64) .unit))) a0.1 a1) (((0 : Int), ((0 : Int), ())), (([] : List (UInt8)), ())))) (fun (r : ((Int) × ((Bool) × (Unit))) × (Unit)) => (bd (F_slicesDeletekidschild k (Option.getD (mfind (denEq (.pair (.int .i64) (.pair (.int .i64) .unit))) a0.2.1 (Option.getD (mfind (denEq (.pair (.int .i64) (.pair (.int .i64) .unit))) a0.1 a1) (((0 : Int), ((0 : Int), ())), (([] : List (UInt8)), ()))).1) ([] : List (TChild))) r.1.1 (IntKind.wrap (IntKind.i64) (r.1.1 + (1 : Int)))) (fun (r1 : ((List (TChild)) × (Unit)) × (Unit)) => (br (denEq (.pair (.int .i64) (.pair (.int .i64) .unit)) (Option.getD (mfind (denEq (.pair (.int .i64) (.pair (.int .i64) .unit))) a0.1 a1) (((0 : Int), ((0 : Int), ())), (([] : List (UInt8)), ()))).1 (Option.getD (mfind (denEq (.pair (.int .i64) (.pair (.int .i64) .unit))) a0.1 a1) (((0 : Int), ((0 : Int), ())), (([] : List (UInt8)), ()))).1)
        (some ((true, ()), (((mdel (denEq (.pair (.int .i64) (.pair (.int .i64) .unit))) a0.1 a1), ((mput (denEq (.pair (.int .i64) (.pair (.int .i64) .unit))) a0.2.1 (Option.getD (mfind (denEq (.pair (.int .i64) (.pair (.int .i64) .unit))) a0.1 a1) (((0 : Int), ((0 : Int), ())), (([] : List (UInt8)), ()))).1 r1.1.1), a0.2.2)), ())))
        none)))))) :=
 (show F_kidsKidsDrop (k + 1) a0 a1 =
  (br (!(Option.isSome (mfind (denEq (.pair (.int .i64) (.pair (.int .i64) .unit))) a0.1 a1)))
   (some ((false, ()), (a0, ())))
   (bd (F_kidsKidsfind k a0 a1 (Option.getD (mfind (denEq (.pair (.int .i64) (.pair (.int .i64) .unit))) a0.1 a1) (((0 : Int), ((0 : Int), ())), (([] : List (UInt8)), ())))) (fun (r : ((Int) × ((Bool) × (Unit))) × (Unit)) => (both
     (both
      (bd (F_slicesDeletekidschild k (Option.getD (mfind (denEq (.pair (.int .i64) (.pair (.int .i64) .unit))) a0.2.1 (Option.getD (mfind (denEq (.pair (.int .i64) (.pair (.int .i64) .unit))) a0.1 a1) (((0 : Int), ((0 : Int), ())), (([] : List (UInt8)), ()))).1) ([] : List (TChild))) r.1.1 (IntKind.wrap (IntKind.i64) (r.1.1 + (1 : Int)))) (fun (r1 : ((List (TChild)) × (Unit)) × (Unit)) => (br (denEq (.pair (.int .i64) (.pair (.int .i64) .unit)) (Option.getD (mfind (denEq (.pair (.int .i64) (.pair (.int .i64) .unit))) a0.1 a1) (((0 : Int), ((0 : Int), ())), (([] : List (UInt8)), ()))).1 (Option.getD (mfind (denEq (.pair (.int .i64) (.pair (.int .i64) .unit))) a0.1 a1) (((0 : Int), ((0 : Int), ())), (([] : List (UInt8)), ()))).1)
        (some ((true, ()), (((mdel (denEq (.pair (.int .i64) (.pair (.int .i64) .unit))) a0.1 a1), ((mput (denEq (.pair (.int .i64) (.pair (.int .i64) .unit))) a0.2.1 (Option.getD (mfind (denEq (.pair (.int .i64) (.pair (.int .i64) .unit))) a0.1 a1) (((0 : Int), ((0 : Int), ())), (([] : List (UInt8)), ()))).1 r1.1.1), a0.2.2)), ())))
        none)))
      (bd (F_slicesDeletekidschild k (Option.getD (mfind (denEq (.pair (.int .i64) (.pair (.int .i64) .unit))) a0.2.1 (Option.getD (mfind (denEq (.pair (.int .i64) (.pair (.int .i64) .unit))) a0.1 a1) (((0 : Int), ((0 : Int), ())), (([] : List (UInt8)), ()))).1) ([] : List (TChild))) r.1.1 (IntKind.wrap (IntKind.i64) (r.1.1 + (1 : Int)))) (fun (r1 : ((List (TChild)) × (Unit)) × (Unit)) => (br (denEq (.pair (.int .i64) (.pair (.int .i64) .unit)) (Option.getD (mfind (denEq (.pair (.int .i64) (.pair (.int .i64) .unit))) a0.1 a1) (((0 : Int), ((0 : Int), ())), (([] : List (UInt8)), ()))).1 (Option.getD (mfind (denEq (.pair (.int .i64) (.pair (.int .i64) .unit))) a0.1 a1) (((0 : Int), ((0 : Int), ())), (([] : List (UInt8)), ()))).1)
        (some ((true, ()), (((mdel (denEq (.pair (.int .i64) (.pair (.int .i64) .unit))) a0.1 a1), ((mput (denEq (.pair (.int .i64) (.pair (.int .i64) .unit))) a0.2.1 (Option.getD (mfind (denEq (.pair (.int .i64) (.pair (.int .i64) .unit))) a0.1 a1) (((0 : Int), ((0 : Int), ())), (([] : List (UInt8)), ()))).1 r1.1.1), a0.2.2)), ())))
        none))))
     (both
      (both
       (bd (F_slicesDeletekidschild k (Option.getD (mfind (denEq (.pair (.int .i64) (.pair (.int .i64) .unit))) a0.2.1 (Option.getD (mfind (denEq (.pair (.int .i64) (.pair (.int .i64) .unit))) a0.1 a1) (((0 : Int), ((0 : Int), ())), (([] : List (UInt8)), ()))).1) ([] : List (TChild))) r.1.1 (IntKind.wrap (IntKind.i64) (r.1.1 + (1 : Int)))) (fun (r1 : ((List (TChild)) × (Unit)) × (Unit)) => (br (denEq (.pair (.int .i64) (.pair (.int .i64) .unit)) (Option.getD (mfind (denEq (.pair (.int .i64) (.pair (.int .i64) .unit))) a0.1 a1) (((0 : Int), ((0 : Int), ())), (([] : List (UInt8)), ()))).1 (Option.getD (mfind (denEq (.pair (.int .i64) (.pair (.int .i64) .unit))) a0.1 a1) (((0 : Int), ((0 : Int), ())), (([] : List (UInt8)), ()))).1)
         (some ((true, ()), (((mdel (denEq (.pair (.int .i64) (.pair (.int .i64) .unit))) a0.1 a1), ((mput (denEq (.pair (.int .i64) (.pair (.int .i64) .unit))) a0.2.1 (Option.getD (mfind (denEq (.pair (.int .i64) (.pair (.int .i64) .unit))) a0.1 a1) (((0 : Int), ((0 : Int), ())), (([] : List (UInt8)), ()))).1 r1.1.1), a0.2.2)), ())))
         none)))
       (bd (F_slicesDeletekidschild k (Option.getD (mfind (denEq (.pair (.int .i64) (.pair (.int .i64) .unit))) a0.2.1 (Option.getD (mfind (denEq (.pair (.int .i64) (.pair (.int .i64) .unit))) a0.1 a1) (((0 : Int), ((0 : Int), ())), (([] : List (UInt8)), ()))).1) ([] : List (TChild))) r.1.1 (IntKind.wrap (IntKind.i64) (r.1.1 + (1 : Int)))) (fun (r1 : ((List (TChild)) × (Unit)) × (Unit)) => (br (denEq (.pair (.int .i64) (.pair (.int .i64) .unit)) (Option.getD (mfind (denEq (.pair (.int .i64) (.pair (.int .i64) .unit))) a0.1 a1) (((0 : Int), ((0 : Int), ())), (([] : List (UInt8)), ()))).1 (Option.getD (mfind (denEq (.pair (.int .i64) (.pair (.int .i64) .unit))) a0.1 a1) (((0 : Int), ((0 : Int), ())), (([] : List (UInt8)), ()))).1)
         (some ((true, ()), (((mdel (denEq (.pair (.int .i64) (.pair (.int .i64) .unit))) a0.1 a1), ((mput (denEq (.pair (.int .i64) (.pair (.int .i64) .unit))) a0.2.1 (Option.getD (mfind (denEq (.pair (.int .i64) (.pair (.int .i64) .unit))) a0.1 a1) (((0 : Int), ((0 : Int), ())), (([] : List (UInt8)), ()))).1 r1.1.1), a0.2.2)), ())))
         none))))
      (bd (F_slicesDeletekidschild k (Option.getD (mfind (denEq (.pair (.int .i64) (.pair (.int .i64) .unit))) a0.2.1 (Option.getD (mfind (denEq (.pair (.int .i64) (.pair (.int .i64) .unit))) a0.1 a1) (((0 : Int), ((0 : Int), ())), (([] : List (UInt8)), ()))).1) ([] : List (TChild))) r.1.1 (IntKind.wrap (IntKind.i64) (r.1.1 + (1 : Int)))) (fun (r1 : ((List (TChild)) × (Unit)) × (Unit)) => (br (denEq (.pair (.int .i64) (.pair (.int .i64) .unit)) (Option.getD (mfind (denEq (.pair (.int .i64) (.pair (.int .i64) .unit))) a0.1 a1) (((0 : Int), ((0 : Int), ())), (([] : List (UInt8)), ()))).1 (Option.getD (mfind (denEq (.pair (.int .i64) (.pair (.int .i64) .unit))) a0.1 a1) (((0 : Int), ((0 : Int), ())), (([] : List (UInt8)), ()))).1)
        (some ((true, ()), (((mdel (denEq (.pair (.int .i64) (.pair (.int .i64) .unit))) a0.1 a1), ((mput (denEq (.pair (.int .i64) (.pair (.int .i64) .unit))) a0.2.1 (Option.getD (mfind (denEq (.pair (.int .i64) (.pair (.int .i64) .unit))) a0.1 a1) (((0 : Int), ((0 : Int), ())), (([] : List (UInt8)), ()))).1 r1.1.1), a0.2.2)), ())))
        none)))))))) by kernel_rfl).trans (by simp only [both_self])

noncomputable def L_kidsKidsGap_44_slicesIndexFunckidschild_0 (k : Nat) (s0 : List (TChild)) (s1 : Unit) (s2 : Int) : Nat → (Int) × ((Int) × ((List (UInt8)) × (Unit))) → Option (LO ((Int) × (Unit)) ((Int) × ((Int) × ((List (UInt8)) × (Unit)))) ((List (UInt8)) × (Unit))) :=
  loopF true 0 19 16045000000 49 cut16045000000_49_0 (s0, s1, s2, ()) (fun σ K => bodyAt E0 (fnE E0 k) (inl4 E0 (fnE E0 k) k) 49 (rvOf 49) k (codeOf 49 0) _ σ K)

theorem L_kidsKidsGap_44_slicesIndexFunckidschild_0_step (k m : Nat) (s0 : List (TChild)) (s1 : Unit) (s2 : Int) (x0 : Int) (x1 : Int) (x2 : List (UInt8)) : L_kidsKidsGap_44_slicesIndexFunckidschild_0 k s0 s1 s2 (m + 1) (x0, x1, x2, ()) =
  (br (decide (x1 < s2))
   (br (inB x1 (List.length s0))
    (br (!((Op.bytesLess (List.getD s0 (Int.toNat x1) (([] : List (UInt8)), (((0 : Int), ((0 : Int), ())), ()))).1 x2) || ((List.getD s0 (Int.toNat x1) (([] : List (UInt8)), (((0 : Int), ((0 : Int), ())), ()))).1 == x2)))
     (some (.ret (x1, ()) (x2, ())))
     (L_kidsKidsGap_44_slicesIndexFunckidschild_0 k s0 s1 s2 m (x0, ((IntKind.wrap (IntKind.i64) (x1 + (1 : Int))), (x2, ())))))
    none)
   (some (.brk (x0, (x1, (x2, ())))))) := by kernel_rfl

theorem F_kidsKidsGap_step (k : Nat) (a0 : TKids) (a1 : TId) (a2 : TId) : F_kidsKidsGap (k + 1) a0 a1 a2 =
  (br (!(denEq (.pair (.int .i64) (.pair (.int .i64) .unit)) a2 ((0 : Int), ((0 : Int), ()))))
   (br (cond (!(Option.isSome (mfind (denEq (.pair (.int .i64) (.pair (.int .i64) .unit))) a0.1 a2))) true (!(denEq (.pair (.int .i64) (.pair (.int .i64) .unit)) (Option.getD (mfind (denEq (.pair (.int .i64) (.pair (.int .i64) .unit))) a0.1 a2) (((0 : Int), ((0 : Int), ())), (([] : List (UInt8)), ()))).1 a1)))
    (some ((([] : List UInt8), (([] : List UInt8), ((13 : Int), ()))), ()))
    (bdL (L_kidsKidsGap_44_slicesIndexFunckidschild_0 k (Option.getD (mfind (denEq (.pair (.int .i64) (.pair (.int .i64) .unit))) a0.2.1 a1) ([] : List (TChild))) () (((List.length (Option.getD (mfind (denEq (.pair (.int .i64) (.pair (.int .i64) .unit))) a0.2.1 a1) ([] : List (TChild)))) : Nat) : Int) k ((0 : Int), ((0 : Int), ((Option.getD (mfind (denEq (.pair (.int .i64) (.pair (.int .i64) .unit))) a0.1 a2) (((0 : Int), ((0 : Int), ())), (([] : List (UInt8)), ()))).2.1, ()))))
     (fun (b : (Int) × ((Int) × ((List (UInt8)) × (Unit)))) => (some ((b.2.2.1, (([] : List UInt8), ((0 : Int), ()))), ())))
     (fun (j : Nat) => (fun (b : (Int) × ((Int) × ((List (UInt8)) × (Unit)))) => none))
     (fun (q : (Int) × (Unit)) => (fun (b : (List (UInt8)) × (Unit)) => (br (decide (q.1 < (0 : Int)))
      (some ((b.1, (([] : List UInt8), ((0 : Int), ()))), ()))
      (br (inB q.1 (List.length (Option.getD (mfind (denEq (.pair (.int .i64) (.pair (.int .i64) .unit))) a0.2.1 a1) ([] : List (TChild)))))
       (some ((b.1, ((List.getD (Option.getD (mfind (denEq (.pair (.int .i64) (.pair (.int .i64) .unit))) a0.2.1 a1) ([] : List (TChild))) (Int.toNat q.1) (([] : List (UInt8)), (((0 : Int), ((0 : Int), ())), ()))).1, ((0 : Int), ()))), ()))
       none))))))
   (bdL (L_kidsKidsGap_44_slicesIndexFunckidschild_0 k (Option.getD (mfind (denEq (.pair (.int .i64) (.pair (.int .i64) .unit))) a0.2.1 a1) ([] : List (TChild))) () (((List.length (Option.getD (mfind (denEq (.pair (.int .i64) (.pair (.int .i64) .unit))) a0.2.1 a1) ([] : List (TChild)))) : Nat) : Int) k ((0 : Int), ((0 : Int), (([] : List UInt8), ()))))
    (fun (b : (Int) × ((Int) × ((List (UInt8)) × (Unit)))) => (some ((b.2.2.1, (([] : List UInt8), ((0 : Int), ()))), ())))
    (fun (j : Nat) => (fun (b : (Int) × ((Int) × ((List (UInt8)) × (Unit)))) => none))
    (fun (q : (Int) × (Unit)) => (fun (b : (List (UInt8)) × (Unit)) => (br (decide (q.1 < (0 : Int)))
     (some ((b.1, (([] : List UInt8), ((0 : Int), ()))), ()))
     (br (inB q.1 (List.length (Option.getD (mfind (denEq (.pair (.int .i64) (.pair (.int .i64) .unit))) a0.2.1 a1) ([] : List (TChild)))))
      (some ((b.1, ((List.getD (Option.getD (mfind (denEq (.pair (.int .i64) (.pair (.int .i64) .unit))) a0.2.1 a1) ([] : List (TChild))) (Int.toNat q.1) (([] : List (UInt8)), (((0 : Int), ((0 : Int), ())), ()))).1, ((0 : Int), ()))), ()))
      none)))))) := by kernel_rfl

noncomputable def L_ref04Between_0 (k : Nat) (s0 : List (UInt8)) (s1 : List (UInt8)) : Nat → (List (UInt8)) × ((Int) × ((List (Int)) × ((Bool) × ((Int) × (Unit))))) → Option (LO ((List (UInt8)) × ((Int) × (Unit))) ((List (UInt8)) × ((Int) × ((List (Int)) × ((Bool) × ((Int) × (Unit)))))) (Unit)) :=
  loopF true 0 97 17000000 16 cut17000000_16_0 (s0, s1, ()) (fun σ K => bodyAt E0 (fnE E0 k) (inl5 E0 (fnE E0 k) k) 16 (rvOf 16) k (codeOf 16 0) _ σ K)

theorem L_ref04Between_0_step (k m : Nat) (s0 : List (UInt8)) (s1 : List (UInt8)) (x0 : List (UInt8)) (x1 : Int) (x2 : List (Int)) (x3 : Bool) (x4 : Int) : L_ref04Between_0 k s0 s1 (m + 1) (x0, x1, x2, x3, x4, ()) =
  (br (decide (x4 < (32 : Int)))
   (br (decide (x4 < (((List.length s0) : Nat) : Int)))
    (br (inB x4 (List.length s0))
     (br (cond x3 (decide (x4 < (((List.length s1) : Nat) : Int))) false)
      (br (inB x4 (List.length s1))
       (br (decide ((IntKind.wrap (IntKind.i64) (((UInt8.toNat (List.getD s1 (Int.toNat x4) (0 : UInt8))) : Nat) : Int)) > (IntKind.wrap (IntKind.i64) ((IntKind.wrap (IntKind.i64) (((UInt8.toNat (List.getD s0 (Int.toNat x4) (0 : UInt8))) : Nat) : Int)) + (1 : Int)))))
        (br ((IntKind.wrap (IntKind.i64) (((UInt8.toNat (List.getD s1 (Int.toNat x4) (0 : UInt8))) : Nat) : Int)) == (256 : Int))
         (br (decide ((((List.length x2) + (List.length ((IntKind.wrap (IntKind.u8) (IntKind.wrap (IntKind.i64) ((IntKind.wrap (IntKind.i64) (((UInt8.toNat (List.getD s0 (Int.toNat x4) (0 : UInt8))) : Nat) : Int)) + (if ((8 : Int) < (IntKind.wrap (IntKind.i64) (Int.tdiv (IntKind.wrap (IntKind.i64) ((IntKind.wrap (IntKind.i64) (((UInt8.toNat (List.getD s1 (Int.toNat x4) (0 : UInt8))) : Nat) : Int)) - (IntKind.wrap (IntKind.i64) (((UInt8.toNat (List.getD s0 (Int.toNat x4) (0 : UInt8))) : Nat) : Int)))) (2 : Int)))) then (8 : Int) else (IntKind.wrap (IntKind.i64) (Int.tdiv (IntKind.wrap (IntKind.i64) ((IntKind.wrap (IntKind.i64) (((UInt8.toNat (List.getD s1 (Int.toNat x4) (0 : UInt8))) : Nat) : Int)) - (IntKind.wrap (IntKind.i64) (((UInt8.toNat (List.getD s0 (Int.toNat x4) (0 : UInt8))) : Nat) : Int)))) (2 : Int))))))) :: ([] : List (Int))))) * (1 : Nat)) ≤ (140737488355328 : Nat)))
          (some (.ret ((List.map (fun (n : Int) => (UInt8.ofNat (Int.toNat n))) (x2 ++ ((IntKind.wrap (IntKind.u8) (IntKind.wrap (IntKind.i64) ((IntKind.wrap (IntKind.i64) (((UInt8.toNat (List.getD s0 (Int.toNat x4) (0 : UInt8))) : Nat) : Int)) + (if ((8 : Int) < (IntKind.wrap (IntKind.i64) (Int.tdiv (IntKind.wrap (IntKind.i64) ((IntKind.wrap (IntKind.i64) (((UInt8.toNat (List.getD s1 (Int.toNat x4) (0 : UInt8))) : Nat) : Int)) - (IntKind.wrap (IntKind.i64) (((UInt8.toNat (List.getD s0 (Int.toNat x4) (0 : UInt8))) : Nat) : Int)))) (2 : Int)))) then (8 : Int) else (IntKind.wrap (IntKind.i64) (Int.tdiv (IntKind.wrap (IntKind.i64) ((IntKind.wrap (IntKind.i64) (((UInt8.toNat (List.getD s1 (Int.toNat x4) (0 : UInt8))) : Nat) : Int)) - (IntKind.wrap (IntKind.i64) (((UInt8.toNat (List.getD s0 (Int.toNat x4) (0 : UInt8))) : Nat) : Int)))) (2 : Int))))))) :: ([] : List (Int))))), ((0 : Int), ())) ()))
          none)
         (br (decide ((((List.length x2) + (List.length ((IntKind.wrap (IntKind.u8) (IntKind.wrap (IntKind.i64) ((IntKind.wrap (IntKind.i64) (((UInt8.toNat (List.getD s0 (Int.toNat x4) (0 : UInt8))) : Nat) : Int)) + (IntKind.wrap (IntKind.i64) (Int.tdiv (IntKind.wrap (IntKind.i64) ((IntKind.wrap (IntKind.i64) (((UInt8.toNat (List.getD s1 (Int.toNat x4) (0 : UInt8))) : Nat) : Int)) - (IntKind.wrap (IntKind.i64) (((UInt8.toNat (List.getD s0 (Int.toNat x4) (0 : UInt8))) : Nat) : Int)))) (2 : Int)))))) :: ([] : List (Int))))) * (1 : Nat)) ≤ (140737488355328 : Nat)))
          (some (.ret ((List.map (fun (n : Int) => (UInt8.ofNat (Int.toNat n))) (x2 ++ ((IntKind.wrap (IntKind.u8) (IntKind.wrap (IntKind.i64) ((IntKind.wrap (IntKind.i64) (((UInt8.toNat (List.getD s0 (Int.toNat x4) (0 : UInt8))) : Nat) : Int)) + (IntKind.wrap (IntKind.i64) (Int.tdiv (IntKind.wrap (IntKind.i64) ((IntKind.wrap (IntKind.i64) (((UInt8.toNat (List.getD s1 (Int.toNat x4) (0 : UInt8))) : Nat) : Int)) - (IntKind.wrap (IntKind.i64) (((UInt8.toNat (List.getD s0 (Int.toNat x4) (0 : UInt8))) : Nat) : Int)))) (2 : Int)))))) :: ([] : List (Int))))), ((0 : Int), ())) ()))
          none))
        (br ((IntKind.wrap (IntKind.i64) (((UInt8.toNat (List.getD s1 (Int.toNat x4) (0 : UInt8))) : Nat) : Int)) == (IntKind.wrap (IntKind.i64) ((IntKind.wrap (IntKind.i64) (((UInt8.toNat (List.getD s0 (Int.toNat x4) (0 : UInt8))) : Nat) : Int)) + (1 : Int))))
         (br (decide ((((List.length x2) + (List.length ((IntKind.wrap (IntKind.u8) (IntKind.wrap (IntKind.i64) (((UInt8.toNat (List.getD s0 (Int.toNat x4) (0 : UInt8))) : Nat) : Int))) :: ([] : List (Int))))) * (1 : Nat)) ≤ (140737488355328 : Nat)))
          (L_ref04Between_0 k s0 s1 m (x0, (x1, ((x2 ++ ((IntKind.wrap (IntKind.u8) (IntKind.wrap (IntKind.i64) (((UInt8.toNat (List.getD s0 (Int.toNat x4) (0 : UInt8))) : Nat) : Int))) :: ([] : List (Int)))), (false, ((IntKind.wrap (IntKind.i64) (x4 + (1 : Int))), ()))))))
          none)
         (br (decide ((((List.length x2) + (List.length ((IntKind.wrap (IntKind.u8) (IntKind.wrap (IntKind.i64) (((UInt8.toNat (List.getD s0 (Int.toNat x4) (0 : UInt8))) : Nat) : Int))) :: ([] : List (Int))))) * (1 : Nat)) ≤ (140737488355328 : Nat)))
          (L_ref04Between_0 k s0 s1 m (x0, (x1, ((x2 ++ ((IntKind.wrap (IntKind.u8) (IntKind.wrap (IntKind.i64) (((UInt8.toNat (List.getD s0 (Int.toNat x4) (0 : UInt8))) : Nat) : Int))) :: ([] : List (Int)))), (x3, ((IntKind.wrap (IntKind.i64) (x4 + (1 : Int))), ()))))))
          none)))
       none)
      (br (decide ((256 : Int) > (IntKind.wrap (IntKind.i64) ((IntKind.wrap (IntKind.i64) (((UInt8.toNat (List.getD s0 (Int.toNat x4) (0 : UInt8))) : Nat) : Int)) + (1 : Int)))))
       (br (decide ((((List.length x2) + (List.length ((IntKind.wrap (IntKind.u8) (IntKind.wrap (IntKind.i64) ((IntKind.wrap (IntKind.i64) (((UInt8.toNat (List.getD s0 (Int.toNat x4) (0 : UInt8))) : Nat) : Int)) + (if ((8 : Int) < (IntKind.wrap (IntKind.i64) (Int.tdiv (IntKind.wrap (IntKind.i64) ((256 : Int) - (IntKind.wrap (IntKind.i64) (((UInt8.toNat (List.getD s0 (Int.toNat x4) (0 : UInt8))) : Nat) : Int)))) (2 : Int)))) then (8 : Int) else (IntKind.wrap (IntKind.i64) (Int.tdiv (IntKind.wrap (IntKind.i64) ((256 : Int) - (IntKind.wrap (IntKind.i64) (((UInt8.toNat (List.getD s0 (Int.toNat x4) (0 : UInt8))) : Nat) : Int)))) (2 : Int))))))) :: ([] : List (Int))))) * (1 : Nat)) ≤ (140737488355328 : Nat)))
        (some (.ret ((List.map (fun (n : Int) => (UInt8.ofNat (Int.toNat n))) (x2 ++ ((IntKind.wrap (IntKind.u8) (IntKind.wrap (IntKind.i64) ((IntKind.wrap (IntKind.i64) (((UInt8.toNat (List.getD s0 (Int.toNat x4) (0 : UInt8))) : Nat) : Int)) + (if ((8 : Int) < (IntKind.wrap (IntKind.i64) (Int.tdiv (IntKind.wrap (IntKind.i64) ((256 : Int) - (IntKind.wrap (IntKind.i64) (((UInt8.toNat (List.getD s0 (Int.toNat x4) (0 : UInt8))) : Nat) : Int)))) (2 : Int)))) then (8 : Int) else (IntKind.wrap (IntKind.i64) (Int.tdiv (IntKind.wrap (IntKind.i64) ((256 : Int) - (IntKind.wrap (IntKind.i64) (((UInt8.toNat (List.getD s0 (Int.toNat x4) (0 : UInt8))) : Nat) : Int)))) (2 : Int))))))) :: ([] : List (Int))))), ((0 : Int), ())) ()))
        none)
       (br ((256 : Int) == (IntKind.wrap (IntKind.i64) ((IntKind.wrap (IntKind.i64) (((UInt8.toNat (List.getD s0 (Int.toNat x4) (0 : UInt8))) : Nat) : Int)) + (1 : Int))))
        (br (decide ((((List.length x2) + (List.length ((IntKind.wrap (IntKind.u8) (IntKind.wrap (IntKind.i64) (((UInt8.toNat (List.getD s0 (Int.toNat x4) (0 : UInt8))) : Nat) : Int))) :: ([] : List (Int))))) * (1 : Nat)) ≤ (140737488355328 : Nat)))
         (L_ref04Between_0 k s0 s1 m (x0, (x1, ((x2 ++ ((IntKind.wrap (IntKind.u8) (IntKind.wrap (IntKind.i64) (((UInt8.toNat (List.getD s0 (Int.toNat x4) (0 : UInt8))) : Nat) : Int))) :: ([] : List (Int)))), (false, ((IntKind.wrap (IntKind.i64) (x4 + (1 : Int))), ()))))))
         none)
        (br (decide ((((List.length x2) + (List.length ((IntKind.wrap (IntKind.u8) (IntKind.wrap (IntKind.i64) (((UInt8.toNat (List.getD s0 (Int.toNat x4) (0 : UInt8))) : Nat) : Int))) :: ([] : List (Int))))) * (1 : Nat)) ≤ (140737488355328 : Nat)))
         (L_ref04Between_0 k s0 s1 m (x0, (x1, ((x2 ++ ((IntKind.wrap (IntKind.u8) (IntKind.wrap (IntKind.i64) (((UInt8.toNat (List.getD s0 (Int.toNat x4) (0 : UInt8))) : Nat) : Int))) :: ([] : List (Int)))), (x3, ((IntKind.wrap (IntKind.i64) (x4 + (1 : Int))), ()))))))
         none))))
     none)
    (br (cond x3 (decide (x4 < (((List.length s1) : Nat) : Int))) false)
     (br (inB x4 (List.length s1))
      (br (decide ((IntKind.wrap (IntKind.i64) (((UInt8.toNat (List.getD s1 (Int.toNat x4) (0 : UInt8))) : Nat) : Int)) > (1 : Int)))
       (br ((IntKind.wrap (IntKind.i64) (((UInt8.toNat (List.getD s1 (Int.toNat x4) (0 : UInt8))) : Nat) : Int)) == (256 : Int))
        (br (decide ((((List.length x2) + (List.length ((IntKind.wrap (IntKind.u8) (IntKind.wrap (IntKind.i64) ((0 : Int) + (if ((8 : Int) < (IntKind.wrap (IntKind.i64) (Int.tdiv (IntKind.wrap (IntKind.i64) ((IntKind.wrap (IntKind.i64) (((UInt8.toNat (List.getD s1 (Int.toNat x4) (0 : UInt8))) : Nat) : Int)) - (0 : Int))) (2 : Int)))) then (8 : Int) else (IntKind.wrap (IntKind.i64) (Int.tdiv (IntKind.wrap (IntKind.i64) ((IntKind.wrap (IntKind.i64) (((UInt8.toNat (List.getD s1 (Int.toNat x4) (0 : UInt8))) : Nat) : Int)) - (0 : Int))) (2 : Int))))))) :: ([] : List (Int))))) * (1 : Nat)) ≤ (140737488355328 : Nat)))
         (some (.ret ((List.map (fun (n : Int) => (UInt8.ofNat (Int.toNat n))) (x2 ++ ((IntKind.wrap (IntKind.u8) (IntKind.wrap (IntKind.i64) ((0 : Int) + (if ((8 : Int) < (IntKind.wrap (IntKind.i64) (Int.tdiv (IntKind.wrap (IntKind.i64) ((IntKind.wrap (IntKind.i64) (((UInt8.toNat (List.getD s1 (Int.toNat x4) (0 : UInt8))) : Nat) : Int)) - (0 : Int))) (2 : Int)))) then (8 : Int) else (IntKind.wrap (IntKind.i64) (Int.tdiv (IntKind.wrap (IntKind.i64) ((IntKind.wrap (IntKind.i64) (((UInt8.toNat (List.getD s1 (Int.toNat x4) (0 : UInt8))) : Nat) : Int)) - (0 : Int))) (2 : Int))))))) :: ([] : List (Int))))), ((0 : Int), ())) ()))
         none)
        (br (decide ((((List.length x2) + (List.length ((IntKind.wrap (IntKind.u8) (IntKind.wrap (IntKind.i64) ((0 : Int) + (IntKind.wrap (IntKind.i64) (Int.tdiv (IntKind.wrap (IntKind.i64) ((IntKind.wrap (IntKind.i64) (((UInt8.toNat (List.getD s1 (Int.toNat x4) (0 : UInt8))) : Nat) : Int)) - (0 : Int))) (2 : Int)))))) :: ([] : List (Int))))) * (1 : Nat)) ≤ (140737488355328 : Nat)))
         (some (.ret ((List.map (fun (n : Int) => (UInt8.ofNat (Int.toNat n))) (x2 ++ ((IntKind.wrap (IntKind.u8) (IntKind.wrap (IntKind.i64) ((0 : Int) + (IntKind.wrap (IntKind.i64) (Int.tdiv (IntKind.wrap (IntKind.i64) ((IntKind.wrap (IntKind.i64) (((UInt8.toNat (List.getD s1 (Int.toNat x4) (0 : UInt8))) : Nat) : Int)) - (0 : Int))) (2 : Int)))))) :: ([] : List (Int))))), ((0 : Int), ())) ()))
         none))
       (br ((IntKind.wrap (IntKind.i64) (((UInt8.toNat (List.getD s1 (Int.toNat x4) (0 : UInt8))) : Nat) : Int)) == (1 : Int))
        (br (decide ((((List.length x2) + (1 : Nat)) * (1 : Nat)) ≤ (140737488355328 : Nat)))
         (L_ref04Between_0 k s0 s1 m (x0, (x1, ((x2 ++ ((0 : Int) :: ([] : List (Int)))), (false, ((IntKind.wrap (IntKind.i64) (x4 + (1 : Int))), ()))))))
         none)
        (br (decide ((((List.length x2) + (1 : Nat)) * (1 : Nat)) ≤ (140737488355328 : Nat)))
         (L_ref04Between_0 k s0 s1 m (x0, (x1, ((x2 ++ ((0 : Int) :: ([] : List (Int)))), (x3, ((IntKind.wrap (IntKind.i64) (x4 + (1 : Int))), ()))))))
         none)))
      none)
     (br (decide ((((List.length x2) + (1 : Nat)) * (1 : Nat)) ≤ (140737488355328 : Nat)))
      (some (.ret ((List.map (fun (n : Int) => (UInt8.ofNat (Int.toNat n))) (x2 ++ ((8 : Int) :: ([] : List (Int))))), ((0 : Int), ())) ()))
      none)))
   (some (.brk (x0, (x1, (x2, (x3, (x4, ())))))))) := by kernel_rfl

theorem F_ref04Between_step (k : Nat) (a0 : List (UInt8)) (a1 : List (UInt8)) : F_ref04Between (k + 1) a0 a1 =
  (br (!(a0 == ([] : List UInt8)))
   (bd (F_ref04Right k a0) (fun (r : ((Bool) × (Unit)) × (Unit)) => (br (cond true (!r.1.1) false)
     (some ((([] : List UInt8), ((15 : Int), ())), ()))
     (br (!(a1 == ([] : List UInt8)))
      (bd (F_ref04Right k a1) (fun (r1 : ((Bool) × (Unit)) × (Unit)) => (br (cond false true (cond true (!r1.1.1) false))
        (some ((([] : List UInt8), ((15 : Int), ())), ()))
        (br (cond (!(a0 == ([] : List UInt8))) (!(a1 == ([] : List UInt8))) false)
         (bd (F_ref00Texts k a0 a1) (fun (r2 : ((Int) × (Unit)) × (Unit)) => (br (cond false true (cond true (decide (r2.1.1 ≥ (0 : Int))) false))
           (some ((([] : List UInt8), ((15 : Int), ())), ()))
           (bdL (L_ref04Between_0 k a0 a1 k (([] : List UInt8), ((0 : Int), (([] : List (Int)), ((!(a1 == ([] : List UInt8))), ((0 : Int), ()))))))
            (fun (b : (List (UInt8)) × ((Int) × ((List (Int)) × ((Bool) × ((Int) × (Unit)))))) => (some ((([] : List UInt8), ((15 : Int), ())), ())))
            (fun (j : Nat) => (fun (b : (List (UInt8)) × ((Int) × ((List (Int)) × ((Bool) × ((Int) × (Unit)))))) => none))
            (fun (q : (List (UInt8)) × ((Int) × (Unit))) => (fun (b : Unit) => (some (q, ()))))))))
         (bdL (L_ref04Between_0 k a0 a1 k (([] : List UInt8), ((0 : Int), (([] : List (Int)), ((!(a1 == ([] : List UInt8))), ((0 : Int), ()))))))
          (fun (b : (List (UInt8)) × ((Int) × ((List (Int)) × ((Bool) × ((Int) × (Unit)))))) => (some ((([] : List UInt8), ((15 : Int), ())), ())))
          (fun (j : Nat) => (fun (b : (List (UInt8)) × ((Int) × ((List (Int)) × ((Bool) × ((Int) × (Unit)))))) => none))
          (fun (q : (List (UInt8)) × ((Int) × (Unit))) => (fun (b : Unit) => (some (q, ())))))))))
      (br (cond (!(a0 == ([] : List UInt8))) (!(a1 == ([] : List UInt8))) false)
       (bd (F_ref00Texts k a0 a1) (fun (r1 : ((Int) × (Unit)) × (Unit)) => (br (cond false true (cond true (decide (r1.1.1 ≥ (0 : Int))) false))
         (some ((([] : List UInt8), ((15 : Int), ())), ()))
         (bdL (L_ref04Between_0 k a0 a1 k (([] : List UInt8), ((0 : Int), (([] : List (Int)), ((!(a1 == ([] : List UInt8))), ((0 : Int), ()))))))
          (fun (b : (List (UInt8)) × ((Int) × ((List (Int)) × ((Bool) × ((Int) × (Unit)))))) => (some ((([] : List UInt8), ((15 : Int), ())), ())))
          (fun (j : Nat) => (fun (b : (List (UInt8)) × ((Int) × ((List (Int)) × ((Bool) × ((Int) × (Unit)))))) => none))
          (fun (q : (List (UInt8)) × ((Int) × (Unit))) => (fun (b : Unit) => (some (q, ()))))))))
       (bdL (L_ref04Between_0 k a0 a1 k (([] : List UInt8), ((0 : Int), (([] : List (Int)), ((!(a1 == ([] : List UInt8))), ((0 : Int), ()))))))
        (fun (b : (List (UInt8)) × ((Int) × ((List (Int)) × ((Bool) × ((Int) × (Unit)))))) => (some ((([] : List UInt8), ((15 : Int), ())), ())))
        (fun (j : Nat) => (fun (b : (List (UInt8)) × ((Int) × ((List (Int)) × ((Bool) × ((Int) × (Unit)))))) => none))
        (fun (q : (List (UInt8)) × ((Int) × (Unit))) => (fun (b : Unit) => (some (q, ()))))))))))
   (br (!(a1 == ([] : List UInt8)))
    (bd (F_ref04Right k a1) (fun (r : ((Bool) × (Unit)) × (Unit)) => (br (cond false true (cond true (!r.1.1) false))
      (some ((([] : List UInt8), ((15 : Int), ())), ()))
      (br (cond (!(a0 == ([] : List UInt8))) (!(a1 == ([] : List UInt8))) false)
       (bd (F_ref00Texts k a0 a1) (fun (r1 : ((Int) × (Unit)) × (Unit)) => (br (cond false true (cond true (decide (r1.1.1 ≥ (0 : Int))) false))
         (some ((([] : List UInt8), ((15 : Int), ())), ()))
         (bdL (L_ref04Between_0 k a0 a1 k (([] : List UInt8), ((0 : Int), (([] : List (Int)), ((!(a1 == ([] : List UInt8))), ((0 : Int), ()))))))
          (fun (b : (List (UInt8)) × ((Int) × ((List (Int)) × ((Bool) × ((Int) × (Unit)))))) => (some ((([] : List UInt8), ((15 : Int), ())), ())))
          (fun (j : Nat) => (fun (b : (List (UInt8)) × ((Int) × ((List (Int)) × ((Bool) × ((Int) × (Unit)))))) => none))
          (fun (q : (List (UInt8)) × ((Int) × (Unit))) => (fun (b : Unit) => (some (q, ()))))))))
       (bdL (L_ref04Between_0 k a0 a1 k (([] : List UInt8), ((0 : Int), (([] : List (Int)), ((!(a1 == ([] : List UInt8))), ((0 : Int), ()))))))
        (fun (b : (List (UInt8)) × ((Int) × ((List (Int)) × ((Bool) × ((Int) × (Unit)))))) => (some ((([] : List UInt8), ((15 : Int), ())), ())))
        (fun (j : Nat) => (fun (b : (List (UInt8)) × ((Int) × ((List (Int)) × ((Bool) × ((Int) × (Unit)))))) => none))
        (fun (q : (List (UInt8)) × ((Int) × (Unit))) => (fun (b : Unit) => (some (q, ())))))))))
    (br (cond (!(a0 == ([] : List UInt8))) (!(a1 == ([] : List UInt8))) false)
     (bd (F_ref00Texts k a0 a1) (fun (r : ((Int) × (Unit)) × (Unit)) => (br (cond false true (cond true (decide (r.1.1 ≥ (0 : Int))) false))
       (some ((([] : List UInt8), ((15 : Int), ())), ()))
       (bdL (L_ref04Between_0 k a0 a1 k (([] : List UInt8), ((0 : Int), (([] : List (Int)), ((!(a1 == ([] : List UInt8))), ((0 : Int), ()))))))
        (fun (b : (List (UInt8)) × ((Int) × ((List (Int)) × ((Bool) × ((Int) × (Unit)))))) => (some ((([] : List UInt8), ((15 : Int), ())), ())))
        (fun (j : Nat) => (fun (b : (List (UInt8)) × ((Int) × ((List (Int)) × ((Bool) × ((Int) × (Unit)))))) => none))
        (fun (q : (List (UInt8)) × ((Int) × (Unit))) => (fun (b : Unit) => (some (q, ()))))))))
     (bdL (L_ref04Between_0 k a0 a1 k (([] : List UInt8), ((0 : Int), (([] : List (Int)), ((!(a1 == ([] : List UInt8))), ((0 : Int), ()))))))
      (fun (b : (List (UInt8)) × ((Int) × ((List (Int)) × ((Bool) × ((Int) × (Unit)))))) => (some ((([] : List UInt8), ((15 : Int), ())), ())))
      (fun (j : Nat) => (fun (b : (List (UInt8)) × ((Int) × ((List (Int)) × ((Bool) × ((Int) × (Unit)))))) => none))
      (fun (q : (List (UInt8)) × ((Int) × (Unit))) => (fun (b : Unit) => (some (q, ())))))))) := by kernel_rfl

theorem F_law14alive_step (k : Nat)  : F_law14alive (k + 1)  =
  (bd (F_kidsNew k ) (fun (r : ((TKids) × (Unit)) × (Unit)) => (bd (F_kidsKidsSet k r.1.1 ((0 : Int), ((1 : Int), ())) (((0 : Int), ((0 : Int), ())), (([98] : List UInt8), ()))) (fun (r1 : ((Int) × (Unit)) × ((TKids) × (Unit))) => (bd (F_kidsKidsSet k r1.2.1 ((0 : Int), ((2 : Int), ())) (((0 : Int), ((0 : Int), ())), (([97] : List UInt8), ()))) (fun (r2 : ((Int) × (Unit)) × ((TKids) × (Unit))) => (bd (F_kidsKidsList k r2.2.1 ((0 : Int), ((0 : Int), ()))) (fun (r3 : ((List (TId)) × (Unit)) × (Unit)) => (bd (F_kidsKidsGap k r2.2.1 ((0 : Int), ((0 : Int), ())) ((0 : Int), ((2 : Int), ()))) (fun (r4 : ((List (UInt8)) × ((List (UInt8)) × ((Int) × (Unit)))) × (Unit)) => (bd (F_kidsKidsBehind k r2.2.1 ((0 : Int), ((2 : Int), ()))) (fun (r5 : ((TId) × ((Bool) × (Unit))) × (Unit)) => (br (cond (cond (r1.1.1 == (0 : Int)) (r2.1.1 == (0 : Int)) false) ((((List.length r3.1.1) : Nat) : Int) == (2 : Int)) false)
         (br (inB (0 : Int) (List.length r3.1.1))
          (br (cond (cond (cond (cond (cond true (denEq (.pair (.int .i64) (.pair (.int .i64) .unit)) (List.getD r3.1.1 (0 : Nat) ((0 : Int), ((0 : Int), ()))) ((0 : Int), ((2 : Int), ()))) false) (r4.1.1 == ([97] : List UInt8)) false) (r4.1.2.1 == ([98] : List UInt8)) false) (r4.1.2.2.1 == (0 : Int)) false) r5.1.2.1 false)
           (br (cond true (denEq (.pair (.int .i64) (.pair (.int .i64) .unit)) r5.1.1 ((0 : Int), ((1 : Int), ()))) false)
            (bd (F_kidsKidsWalk k r2.2.1 ((0 : Int), ((0 : Int), ()))) (fun (r6 : ((List (TId)) × (Unit)) × (Unit)) => (some (((cond true ((((List.length r6.1.1) : Nat) : Int) == (2 : Int)) false), ()), ()))))
            (some ((false, ()), ())))
           (some ((false, ()), ())))
          none)
         (some ((false, ()), ()))))))))))))))) := by kernel_rfl

noncomputable def L_law14KidsNew_0 (k : Nat) (s0 : List (TCall)) (s1 : Unit) (s2 : TId) : Nat → (Bool) × ((Int) × ((TKids) × (Unit))) → Option (LO ((Bool) × (Unit)) ((Bool) × ((Int) × ((TKids) × (Unit)))) ((TKids) × (Unit))) :=
  loopF true 0 141 4000000 3 cut4000000_3_0 (s0, s1, s2, ()) (fun σ K => bodyAt E0 (fnE E0 k) (inl5 E0 (fnE E0 k) k) 3 (rvOf 3) k (codeOf 3 0) _ σ K)

theorem L_law14KidsNew_0_step (k m : Nat) (s0 : List (TCall)) (s1 : Unit) (s2 : TId) (x0 : Bool) (x1 : Int) (x2 : TKids) : L_law14KidsNew_0 k s0 s1 s2 (m + 1) (x0, x1, x2, ()) =
  (br (decide (x1 < (((List.length s0) : Nat) : Int)))
   (br (inB x1 (List.length s0))
    (br (denEq (.pair (.int .i64) (.pair (.int .i64) .unit)) (List.getD s0 (Int.toNat x1) ((0 : Int), (((0 : Int), ((0 : Int), ())), ((((0 : Int), ((0 : Int), ())), (([] : List (UInt8)), ())), ())))).2.1 s2)
     (some (.ret (true, ()) (x2, ())))
     (br (inB x1 (List.length s0))
      (br ((List.getD s0 (Int.toNat x1) ((0 : Int), (((0 : Int), ((0 : Int), ())), ((((0 : Int), ((0 : Int), ())), (([] : List (UInt8)), ())), ())))).1 == (0 : Int))
       (br (inB x1 (List.length s0))
        (br (inB x1 (List.length s0))
         (bd (F_kidsKidsSet k x2 (List.getD s0 (Int.toNat x1) ((0 : Int), (((0 : Int), ((0 : Int), ())), ((((0 : Int), ((0 : Int), ())), (([] : List (UInt8)), ())), ())))).2.1 (List.getD s0 (Int.toNat x1) ((0 : Int), (((0 : Int), ((0 : Int), ())), ((((0 : Int), ((0 : Int), ())), (([] : List (UInt8)), ())), ())))).2.2.1) (fun (r : ((Int) × (Unit)) × ((TKids) × (Unit))) => (L_law14KidsNew_0 k s0 s1 s2 m (x0, ((IntKind.wrap (IntKind.i64) (x1 + (1 : Int))), (r.2.1, ()))))))
         none)
        none)
       (br (inB x1 (List.length s0))
        (bd (F_kidsKidsDrop k x2 (List.getD s0 (Int.toNat x1) ((0 : Int), (((0 : Int), ((0 : Int), ())), ((((0 : Int), ((0 : Int), ())), (([] : List (UInt8)), ())), ())))).2.1) (fun (r : ((Bool) × (Unit)) × ((TKids) × (Unit))) => (L_law14KidsNew_0 k s0 s1 s2 m (x0, ((IntKind.wrap (IntKind.i64) (x1 + (1 : Int))), (r.2.1, ()))))))
        none))
      none))
    none)
   (some (.brk (x0, (x1, (x2, ())))))) := by kernel_rfl

theorem F_law14KidsNew_step (k : Nat) (a0 : List (TCall)) (a1 : TId) (a2 : TId) : F_law14KidsNew (k + 1) a0 a1 a2 =
  (bd (F_law14alive k ) (fun (r : ((Bool) × (Unit)) × (Unit)) => (br (!r.1.1)
    (some ((false, ()), ()))
    (bd (F_law14great k a0) (fun (r1 : ((Bool) × (Unit)) × (Unit)) => (br r1.1.1
      (some ((true, ()), ()))
      (bd (F_kidsNew k ) (fun (r2 : ((TKids) × (Unit)) × (Unit)) => (bdL (L_law14KidsNew_0 k a0 () ((15 : Int), ((1048576 : Int), ())) k (false, ((0 : Int), (r2.1.1, ()))))
        (fun (b : (Bool) × ((Int) × ((TKids) × (Unit)))) => (bd (F_kidsKidsGap k b.2.2.1 a1 a2) (fun (r3 : ((List (UInt8)) × ((List (UInt8)) × ((Int) × (Unit)))) × (Unit)) => (br (r3.1.2.2.1 != (0 : Int))
          (some (((cond (r3.1.1 == ([] : List UInt8)) (r3.1.2.1 == ([] : List UInt8)) false), ()), ()))
          (bd (F_ref04Between k r3.1.1 r3.1.2.1) (fun (r4 : ((List (UInt8)) × ((Int) × (Unit))) × (Unit)) => (br (r4.1.2.1 != (0 : Int))
            (some ((true, ()), ()))
            (bd (F_kidsKidsSet k b.2.2.1 ((15 : Int), ((1048576 : Int), ())) (a1, (r4.1.1, ()))) (fun (r5 : ((Int) × (Unit)) × ((TKids) × (Unit))) => (br (cond false true (r5.1.1 != (0 : Int)))
              (some ((true, ()), ()))
              (bd (F_kidsKidsAhead k r5.2.1 ((15 : Int), ((1048576 : Int), ()))) (fun (r6 : ((TId) × ((Bool) × (Unit))) × (Unit)) => (br (denEq (.pair (.int .i64) (.pair (.int .i64) .unit)) a2 ((0 : Int), ((0 : Int), ())))
                (some (((!r6.1.2.1), ()), ()))
                (bd (F_kidsKidsPlace k r5.2.1 r6.1.1) (fun (r7 : ((TPlace) × ((Bool) × (Unit))) × (Unit)) => (bd (F_kidsKidsPlace k r5.2.1 a2) (fun (r8 : ((TPlace) × ((Bool) × (Unit))) × (Unit)) => (some (((cond (cond (cond (cond r6.1.2.1 r7.1.2.1 false) r8.1.2.1 false) (r7.1.1.2.1 == r8.1.1.2.1) false) (denEq (.pair (.int .i64) (.pair (.int .i64) .unit)) r7.1.1.1 a1) false), ()), ())))))))))))))))))))
        (fun (j : Nat) => (fun (b : (Bool) × ((Int) × ((TKids) × (Unit)))) => none))
        (fun (q : (Bool) × (Unit)) => (fun (b : (TKids) × (Unit)) => (some (q, ()))))))))))))) := by kernel_rfl

end Go.Proofs.YtkfikongenapfaaDoor.E

namespace Go.Proofs.YtkfikongenapfaaDoor.E
open Go
set_option linter.unusedSimpArgs false
set_option linter.unusedVariables false
/-! how children are ordered -/
def cmpI (a b : Int) : Int := if a < b then -1 else if b < a then 1 else 0

def orI (x y : Int) : Int := if x = 0 then y else x

def ordI (a b : TId) : Int := orI (cmpI a.1 b.1) (cmpI a.2.1 b.2.1)

def ordC (a b : TChild) : Int := orI (Lib.compareBytes a.1 b.1) (ordI a.2.1 b.2.1)

theorem F_cmpCompareint_eq (k : Nat) (a b : Int) : F_cmpCompareint (k + 2) a b = some ((cmpI a b, ()), ()) := by
  rw [F_cmpCompareint_step, F_cmpisNaNint_step, F_cmpisNaNint_step]
  simp only [bd_s, bne_self_eq_false]
  unfold cmpI br
  by_cases h1 : a < b
  · simp [h1]
  · by_cases h2 : b < a
    · simp [h1, h2]
    · simp [h1, h2]

theorem F_cmpOrint_eq (k : Nat) (x y : Int) : F_cmpOrint (k + 4) [x, y] = some ((orI x y, ()), ()) := by
  rw [F_cmpOrint_step]
  rw [show k + 3 = (k + 2) + 1 from rfl, L_cmpOrint_0_step, show k + 2 = (k + 1) + 1 from rfl]
  by_cases h : x = 0
  · subst h
    rw [show (IntKind.wrap IntKind.i64 ((0 : Int) + 1)) = 1 from rfl]
    rw [L_cmpOrint_0_step, L_cmpOrint_0_step]
    by_cases h2 : y = 0
    · subst h2
      simp [br, orI, bdL, inB, show (IntKind.wrap IntKind.i64 (2 : Int)) = 2 from rfl]
    · have h3 : (y != 0) = true := by simp [h2]
      simp [br, orI, bdL, inB, h3]
  · have h3 : (x != 0) = true := by simp [h]
    simp [br, orI, bdL, inB, h, h3]

theorem F_stampOrderIds_eq (k : Nat) (a b : TId) : F_stampOrderIds (k + 5) a b = some ((ordI a b, ()), ()) := by
  rw [F_stampOrderIds_step, F_cmpCompareint_eq (k + 2), F_cmpCompareint_eq (k + 2)]
  simp only [bd_s]
  rw [F_cmpOrint_eq]
  rfl

theorem F_fracOrder_eq (k : Nat) (a b : List UInt8) : F_fracOrder (k + 2) a b = some ((Lib.compareBytes a b, ()), ()) := by
  rw [F_fracOrder_step, F_stringsCompare_step]
  rfl

theorem F_kidsorder_eq (k : Nat) (a b : TChild) : F_kidsorder (k + 6) a b = some ((ordC a b, ()), ()) := by
  rw [F_kidsorder_step, F_fracOrder_eq (k + 3), F_stampOrderIds_eq k]
  simp only [bd_s]
  rw [F_cmpOrint_eq (k + 1)]
  rfl

end Go.Proofs.YtkfikongenapfaaDoor.E

namespace Go.Proofs.YtkfikongenapfaaDoor.E
open Go
set_option linter.unusedSimpArgs false
set_option linter.unusedVariables false
/-! the place of a child among children -/
def dC : TChild := (([] : List (UInt8)), (((0 : Int), ((0 : Int), ())), ()))

theorem mid_eq {x y : Nat} (h : x ≤ y) (hy : y ≤ 2 ^ 46) : IntKind.wrap (IntKind.i64) (Int.fdiv (IntKind.wrap (IntKind.u64) (IntKind.wrap (IntKind.i64) ((x : Int) + (y : Int)))) (2 : Int)) = (((x + y) / 2 : Nat) : Int) := by
  have e1 : IntKind.wrap (IntKind.i64) ((x : Int) + (y : Int)) = ((x + y : Nat) : Int) := by
    simp [IntKind.wrap, IntKind.bits, IntKind.signed]
    omega
  rw [e1]
  have e2 : IntKind.wrap (IntKind.u64) ((x + y : Nat) : Int) = ((x + y : Nat) : Int) := by
    simp [IntKind.wrap, IntKind.bits, IntKind.signed]
    omega
  rw [e2]
  have e3 : Int.fdiv ((x + y : Nat) : Int) 2 = (((x + y) / 2 : Nat) : Int) := by
    rw [Int.fdiv_eq_ediv_of_nonneg _ (by omega)]
    omega
  rw [e3]
  simp [IntKind.wrap, IntKind.bits, IntKind.signed]
  omega

theorem mid_succ {z : Nat} (hz : z ≤ 2 ^ 46) : IntKind.wrap (IntKind.i64) ((z : Int) + 1) = ((z + 1 : Nat) : Int) := by
  simp [IntKind.wrap, IntKind.bits, IntKind.signed]
  omega

theorem L_find_eq (k : Nat) (l : List TChild) (t : TChild) (hlen : l.length ≤ 2 ^ 46) (hmono : ∀ i j, i ≤ j → j < l.length → ordC (l.getD j dC) t < 0 → ordC (l.getD i dC) t < 0) :
    ∀ (m x0 x1 : Nat), x0 ≤ x1 → x1 ≤ l.length → x1 - x0 < m → (∀ j, j < x0 → ordC (l.getD j dC) t < 0) → (∀ j, x1 ≤ j → j < l.length → ¬ ordC (l.getD j dC) t < 0) →
      ∃ i : Nat, i ≤ l.length ∧ L_kidsKidsfind_19_slicesBinarySearchFunckidschild_0 (k + 6) l () t m ((x0 : Int), ((x1 : Int), ())) = some (.brk ((i : Int), ((i : Int), ()))) ∧ (∀ j, j < i → ordC (l.getD j dC) t < 0) ∧ (∀ j, i ≤ j → j < l.length → ¬ ordC (l.getD j dC) t < 0) := by
  intro m
  induction m with
  | zero => intro x0 x1 _ _ h; omega
  | succ m ih =>
    intro x0 x1 h01 h1l hm hlo hhi
    rw [L_kidsKidsfind_19_slicesBinarySearchFunckidschild_0_step]
    by_cases hx : x0 < x1
    · have hd : decide ((x0 : Int) < (x1 : Int)) = true := by simp [hx]
      rw [mid_eq h01 (by omega)]
      have hin : inB (((x0 + x1) / 2 : Nat) : Int) l.length = true := by
        simp [inB]; omega
      have hmid : (x0 + x1) / 2 < l.length := by omega
      rw [hd, hin]
      simp only [br, cond_true, Int.toNat_natCast]
      rw [F_kidsorder_eq]
      simp only [bd_s]
      rw [mid_succ (by omega)]
      cases hc : decide (ordC (l.getD ((x0 + x1) / 2) (([] : List (UInt8)), (((0 : Int), ((0 : Int), ())), ()))) t < 0) with
      | true =>
        simp only [cond_true]
        have hc' : ordC (l.getD ((x0 + x1) / 2) dC) t < 0 := by simpa [dC] using hc
        exact ih ((x0 + x1) / 2 + 1) x1 (by omega) h1l (by omega) (fun j hj => hmono j _ (by omega) hmid hc') hhi
      | false =>
        simp only [cond_false]
        have hc' : ¬ ordC (l.getD ((x0 + x1) / 2) dC) t < 0 := by simpa [dC] using hc
        exact ih x0 ((x0 + x1) / 2) (by omega) (by omega) (by omega) hlo (fun j hj hjl h => hc' (hmono _ j hj hjl h))
    · have e : x0 = x1 := by omega
      subst e
      refine ⟨x0, h1l, ?_, hlo, hhi⟩
      simp [br]

end Go.Proofs.YtkfikongenapfaaDoor.E

namespace Go.Proofs.YtkfikongenapfaaDoor.E
open Go
set_option linter.unusedSimpArgs false
set_option linter.unusedVariables false
/-! the order of children is an order -/
theorem cmpI_zero {a b : Int} : cmpI a b = 0 ↔ a = b := by unfold cmpI; split <;> (try split) <;> omega

theorem cmpI_neg {a b : Int} : cmpI a b < 0 ↔ a < b := by unfold cmpI; split <;> (try split) <;> omega

theorem cmpI_swap (a b : Int) : cmpI b a = - cmpI a b := by unfold cmpI; split <;> split <;> (try split) <;> omega

theorem cmpB_zero : ∀ {a b : List UInt8}, Lib.compareBytes a b = 0 ↔ a = b
  | [], [] => by simp [Lib.compareBytes]
  | [], _ :: _ => by simp [Lib.compareBytes]
  | _ :: _, [] => by simp [Lib.compareBytes]
  | a :: xs, b :: ys => by
    unfold Lib.compareBytes
    by_cases h1 : a < b
    · simp [h1]; intro e; subst e; exact absurd h1 (UInt8.lt_irrefl _)
    · by_cases h2 : b < a
      · simp [h1, h2]; intro e; subst e; exact absurd h2 (UInt8.lt_irrefl _)
      · have e : a = b := UInt8.le_antisymm (UInt8.not_lt.1 h2) (UInt8.not_lt.1 h1)
        simp [h1, h2, e, cmpB_zero (a := xs) (b := ys)]

theorem cmpB_swap : ∀ (a b : List UInt8), Lib.compareBytes b a = - Lib.compareBytes a b
  | [], [] => by simp [Lib.compareBytes]
  | [], _ :: _ => by simp [Lib.compareBytes]
  | _ :: _, [] => by simp [Lib.compareBytes]
  | a :: xs, b :: ys => by
    unfold Lib.compareBytes
    by_cases h1 : a < b
    · have h2 : ¬ b < a := fun h => absurd (UInt8.lt_trans h1 h) (UInt8.lt_irrefl _)
      simp [h1, h2]
    · by_cases h2 : b < a
      · simp [h1, h2]
      · simp [h1, h2, cmpB_swap xs ys]

theorem cmpB_trans : ∀ {a b c : List UInt8}, Lib.compareBytes a b < 0 → Lib.compareBytes b c < 0 → Lib.compareBytes a c < 0
  | [], b, [], h1, h2 => by cases b <;> simp [Lib.compareBytes] at h1 h2
  | [], _, _ :: _, _, _ => by simp [Lib.compareBytes]
  | _ :: _, [], _, h1, _ => by simp [Lib.compareBytes] at h1
  | _ :: _, _ :: _, [], _, h2 => by simp [Lib.compareBytes] at h2
  | a :: xs, b :: ys, c :: zs, h1, h2 => by
    unfold Lib.compareBytes at h1 h2 ⊢
    by_cases x1 : a < b
    · by_cases y1 : b < c
      · simp [UInt8.lt_trans x1 y1]
      · by_cases y2 : c < b
        · simp [y1, y2] at h2
        · have e : b = c := UInt8.le_antisymm (UInt8.not_lt.1 y2) (UInt8.not_lt.1 y1)
          subst e; simp [x1]
    · by_cases x2 : b < a
      · simp [x1, x2] at h1
      · have e : a = b := UInt8.le_antisymm (UInt8.not_lt.1 x2) (UInt8.not_lt.1 x1)
        subst e
        simp only [UInt8.lt_irrefl, if_false] at h1
        by_cases y1 : a < c
        · simp [y1]
        · by_cases y2 : c < a
          · simp [y1, y2] at h2
          · simp only [y1, y2, if_false] at h2 ⊢
            exact cmpB_trans h1 h2

theorem orI_neg {x y : Int} : orI x y < 0 ↔ x < 0 ∨ (x = 0 ∧ y < 0) := by unfold orI; split <;> omega

theorem orI_zero {x y : Int} : orI x y = 0 ↔ x = 0 ∧ y = 0 := by unfold orI; split <;> omega

theorem ordI_zero {a b : TId} : ordI a b = 0 ↔ a = b := by
  obtain ⟨a1, a2, u⟩ := a
  obtain ⟨b1, b2, v⟩ := b
  simp [ordI, orI_zero, cmpI_zero]

theorem ordI_neg {a b : TId} : ordI a b < 0 ↔ a.1 < b.1 ∨ (a.1 = b.1 ∧ a.2.1 < b.2.1) := by
  simp [ordI, orI_neg, cmpI_zero, cmpI_neg]

theorem ordC_zero {a b : TChild} : ordC a b = 0 ↔ a = b := by
  obtain ⟨a1, a2, u⟩ := a
  obtain ⟨b1, b2, v⟩ := b
  simp [ordC, orI_zero, ordI_zero, cmpB_zero]

theorem ordC_neg {a b : TChild} : ordC a b < 0 ↔ Lib.compareBytes a.1 b.1 < 0 ∨ (a.1 = b.1 ∧ ordI a.2.1 b.2.1 < 0) := by
  simp [ordC, orI_neg, cmpB_zero]

theorem ordI_trans {a b c : TId} (h1 : ordI a b < 0) (h2 : ordI b c < 0) : ordI a c < 0 := by
  rw [ordI_neg] at *; omega

theorem ordC_trans {a b c : TChild} (h1 : ordC a b < 0) (h2 : ordC b c < 0) : ordC a c < 0 := by
  rw [ordC_neg] at *
  rcases h1 with h1 | ⟨e1, h1⟩ <;> rcases h2 with h2 | ⟨e2, h2⟩
  · exact .inl (cmpB_trans h1 h2)
  · exact .inl (e2 ▸ h1)
  · exact .inl (e1 ▸ h2)
  · exact .inr ⟨e1.trans e2, ordI_trans h1 h2⟩

theorem ordI_swap (a b : TId) : ordI b a = - ordI a b := by
  unfold ordI orI
  rw [cmpI_swap a.1 b.1, cmpI_swap a.2.1 b.2.1]
  split <;> split <;> omega

theorem ordC_swap (a b : TChild) : ordC b a = - ordC a b := by
  unfold ordC
  rw [cmpB_swap a.1 b.1, ordI_swap a.2.1 b.2.1]
  unfold orI
  split <;> split <;> omega

theorem ordC_irrefl (a : TChild) : ¬ ordC a a < 0 := by have := ordC_zero.2 (rfl : a = a); omega

/-- in order, each once -/
def Sorted (l : List TChild) : Prop := l.Pairwise fun a b => ordC a b < 0

theorem Sorted.mono {l : List TChild} (h : Sorted l) (t : TChild) : ∀ i j, i ≤ j → j < l.length → ordC (l.getD j dC) t < 0 → ordC (l.getD i dC) t < 0 := by
  intro i j hij hj hlt
  rcases Nat.lt_or_ge i j with h' | h'
  · refine ordC_trans ?_ hlt
    have := List.pairwise_iff_getElem.1 h i j (by omega) hj h'
    simpa [List.getD_eq_getElem?_getD, List.getElem?_eq_getElem hj, List.getElem?_eq_getElem (by omega : i < l.length)] using this
  · have : i = j := by omega
    subst this; exact hlt

/-- the children of a parent -/
def kidsOf (s : TKids) (p : TId) : List TChild := Option.getD (mfind (denEq (.pair (.int .i64) (.pair (.int .i64) .unit))) s.2.1 p) []

theorem F_kidsKidsfind_eq (k : Nat) (s : TKids) (id : TId) (pl : TPlace) (hs : Sorted (kidsOf s pl.1)) (hlen : (kidsOf s pl.1).length ≤ 2 ^ 46) (hk : (kidsOf s pl.1).length < k + 6) :
    ∃ i : Nat, i ≤ (kidsOf s pl.1).length ∧ F_kidsKidsfind (k + 7) s id pl = some (((i : Int), (decide (i < (kidsOf s pl.1).length ∧ (kidsOf s pl.1).getD i dC = (pl.2.1, (id, ()))), ())), ()) ∧
      (∀ j, j < i → ordC ((kidsOf s pl.1).getD j dC) (pl.2.1, (id, ())) < 0) ∧ (∀ j, i ≤ j → j < (kidsOf s pl.1).length → ¬ ordC ((kidsOf s pl.1).getD j dC) (pl.2.1, (id, ())) < 0) := by
  obtain ⟨i, h1, h2, h3, h4⟩ := L_find_eq k (kidsOf s pl.1) (pl.2.1, (id, ())) hlen (hs.mono _) (k + 6) 0 (kidsOf s pl.1).length (by omega) (by omega) (by omega) (by intro j hj; omega) (by intro j hj hj'; omega)
  refine ⟨i, h1, ?_, h3, h4⟩
  rw [F_kidsKidsfind_step]
  have h2' : L_kidsKidsfind_19_slicesBinarySearchFunckidschild_0 (k + 6) (Option.getD (mfind (denEq (.pair (.int .i64) (.pair (.int .i64) .unit))) s.2.1 pl.1) ([] : List (TChild))) () (pl.2.1, (id, ())) (k + 6) ((0 : Int), ((((List.length (Option.getD (mfind (denEq (.pair (.int .i64) (.pair (.int .i64) .unit))) s.2.1 pl.1) ([] : List (TChild)))) : Nat) : Int), ())) = some (.brk ((i : Int), ((i : Int), ()))) := h2
  rw [h2']
  simp only [bdL]
  change br (boolEq (decide ((i : Int) < ((kidsOf s pl.1).length : Int))) true) (br (inB (i : Int) (kidsOf s pl.1).length) (bd (F_kidsorder (k + 6) ((kidsOf s pl.1).getD ((i : Int).toNat) dC) (pl.2.1, (id, ()))) _) none) _ = _
  rw [Int.toNat_natCast, F_kidsorder_eq]
  by_cases hi : i < (kidsOf s pl.1).length
  · have e1 : decide ((i : Int) < ((kidsOf s pl.1).length : Int)) = true := by simp [hi]
    have e2 : inB (i : Int) (kidsOf s pl.1).length = true := by simp [inB, hi]
    rw [e1, e2]
    simp only [bd_s, boolEq, br, cond_true, hi, true_and]
    have : (ordC ((kidsOf s pl.1).getD i dC) (pl.2.1, (id, ())) == 0) = decide ((kidsOf s pl.1).getD i dC = (pl.2.1, (id, ()))) := by
      rw [Bool.eq_iff_iff]; simp [ordC_zero]
    rw [this]
  · have e1 : decide ((i : Int) < ((kidsOf s pl.1).length : Int)) = false := by simp [hi]
    rw [e1]
    simp [boolEq, br, hi]

end Go.Proofs.YtkfikongenapfaaDoor.E

namespace Go.Proofs.YtkfikongenapfaaDoor.E
open Go
set_option linter.unusedSimpArgs false
set_option linter.unusedVariables false
/-! maps by id -/
abbrev eqId : TId → TId → Bool := denEq (.pair (.int .i64) (.pair (.int .i64) .unit))

theorem eqId_iff {a b : TId} : eqId a b = true ↔ a = b := by
  show denEq (.pair (.int .i64) (.pair (.int .i64) .unit)) a b = true ↔ a = b
  rw [eqI]; simp

theorem eqId_ne {a b : TId} (h : a ≠ b) : eqId a b = false := by
  cases e : eqId a b with
  | false => rfl
  | true => exact (h (eqId_iff.1 e)).elim

theorem eqId_self (a : TId) : eqId a a = true := eqId_iff.2 rfl

theorem mfind_put {V : Type} (es : List (TId × V)) (y z : TId) (v : V) : mfind eqId (mput eqId es y v) z = if z = y then some v else mfind eqId es z := by
  induction es with
  | nil =>
    by_cases h : z = y
    · subst h; simp [mput, mfind, eqId_self]
    · simp [mput, mfind, eqId_ne h, h]
  | cons x es ih =>
    obtain ⟨k, u⟩ := x
    by_cases hk : y = k
    · subst hk
      by_cases h : z = y
      · subst h; simp [mput, mfind, eqId_self]
      · simp [mput, mfind, eqId_self, eqId_ne h, h]
    · by_cases h : z = k
      · subst h
        have : z ≠ y := fun e => hk e.symm
        simp [mput, mfind, eqId_ne hk, eqId_self, this]
      · simp [mput, mfind, eqId_ne hk, eqId_ne h, ih]

theorem mput_keys {V : Type} (es : List (TId × V)) (y : TId) (v : V) : (mput eqId es y v).map (·.1) = if y ∈ es.map (·.1) then es.map (·.1) else es.map (·.1) ++ [y] := by
  induction es with
  | nil => simp [mput]
  | cons x es ih =>
    obtain ⟨k, u⟩ := x
    by_cases hk : y = k
    · subst hk; simp [mput, eqId_self]
    · simp only [mput, eqId_ne hk, List.map_cons, List.mem_cons, hk, false_or]
      simp only [cond_false, List.map_cons, ih]
      split <;> simp

theorem mput_nodup {V : Type} {es : List (TId × V)} (h : (es.map (·.1)).Nodup) (y : TId) (v : V) : ((mput eqId es y v).map (·.1)).Nodup := by
  rw [mput_keys]
  split
  · exact h
  · rename_i hn
    rw [List.nodup_append]
    exact ⟨h, by simp, by intro a ha b hb; simp at hb; subst hb; rintro rfl; exact hn ha⟩

theorem mfind_mem {V : Type} {es : List (TId × V)} {z : TId} : mfind eqId es z = none ↔ z ∉ es.map (·.1) := by
  induction es with
  | nil => simp [mfind]
  | cons x es ih =>
    obtain ⟨k, u⟩ := x
    by_cases h : z = k
    · subst h; simp [mfind, eqId_self]
    · simp [mfind, eqId_ne h, h, ih]

theorem mfind_del {V : Type} {es : List (TId × V)} (h : (es.map (·.1)).Nodup) (y z : TId) : mfind eqId (mdel eqId es y) z = if z = y then none else mfind eqId es z := by
  induction es with
  | nil => simp [mdel, mfind]
  | cons x es ih =>
    obtain ⟨k, u⟩ := x
    simp only [List.map_cons, List.nodup_cons] at h
    by_cases hk : y = k
    · subst hk
      by_cases hz : z = y
      · subst hz
        simp only [mdel, eqId_self, cond_true, if_true]
        exact mfind_mem.2 h.1
      · simp [mdel, mfind, eqId_self, eqId_ne hz, hz]
    · by_cases hz : z = k
      · subst hz
        have : z ≠ y := fun e => hk e.symm
        simp [mdel, mfind, eqId_ne hk, eqId_self, this]
      · simp [mdel, mfind, eqId_ne hk, eqId_ne hz, ih h.2]

theorem mdel_sub {V : Type} (es : List (TId × V)) (y : TId) : ((mdel eqId es y).map (·.1)).Sublist (es.map (·.1)) := by
  induction es with
  | nil => simp [mdel]
  | cons x es ih =>
    obtain ⟨k, u⟩ := x
    by_cases hk : y = k
    · subst hk; simp [mdel, eqId_self]
    · simp [mdel, eqId_ne hk]; exact ih

theorem mdel_nodup {V : Type} {es : List (TId × V)} (h : (es.map (·.1)).Nodup) (y : TId) : ((mdel eqId es y).map (·.1)).Nodup := h.sublist (mdel_sub es y)

end Go.Proofs.YtkfikongenapfaaDoor.E

namespace Go.Proofs.YtkfikongenapfaaDoor.E
open Go
set_option linter.unusedSimpArgs false
set_option linter.unusedVariables false
/-! what holds of a tree of children; a child is dropped -/
structure KInv (R : TId → TPlace → Prop) (n : Nat) (s : TKids) : Prop where
  nodup : (s.1.map (·.1)).Nodup
  sorted : ∀ p, Sorted (kidsOf s p)
  mem : ∀ p (c : TChild), c ∈ kidsOf s p ↔ mfind eqId s.1 c.2.1 = some (p, (c.1, ()))
  len : ∀ p, (kidsOf s p).length ≤ n
  right : ∀ id pl, mfind eqId s.1 id = some pl → R id pl
theorem kidsOf_put (s1 : List (TId × TPlace)) (s : TKids) (q p : TId) (l : List TChild) : kidsOf (s1, (mput eqId s.2.1 q l, s.2.2)) p = if p = q then l else kidsOf s p := by
  unfold kidsOf
  show Option.getD (mfind eqId (mput eqId s.2.1 q l) p) [] = _
  rw [mfind_put]
  split <;> rfl

theorem sorted_split {l : List TChild} {i : Nat} {t : TChild} (hs : Sorted l) (hi : i < l.length) (ht : l.getD i dC = t) : l = l.take i ++ t :: l.drop (i + 1) ∧ ∀ c, (c ∈ l.take i ++ l.drop (i + 1) ↔ c ∈ l ∧ c ≠ t) := by
  have hti : l[i] = t := by rw [← ht]; simp [List.getD_eq_getElem?_getD, List.getElem?_eq_getElem hi]
  have e : l = l.take i ++ t :: l.drop (i + 1) := by
    rw [← hti, ← List.drop_eq_getElem_cons hi, List.take_append_drop]
  refine ⟨e, fun c => ?_⟩
  have hp := hs
  unfold Sorted at hp
  rw [e] at hp
  obtain ⟨p1, p2, p3⟩ := List.pairwise_append.1 hp
  obtain ⟨p4, p5⟩ := List.pairwise_cons.1 p2
  constructor
  · intro hc
    rcases List.mem_append.1 hc with h | h
    · exact ⟨List.mem_of_mem_take h, by rintro rfl; exact ordC_irrefl _ (p3 c h c (by simp))⟩
    · exact ⟨List.mem_of_mem_drop h, by rintro rfl; exact ordC_irrefl _ (p4 c h)⟩
  · rintro ⟨h, hne⟩
    rw [e] at h
    rcases List.mem_append.1 h with h | h
    · exact List.mem_append.2 (.inl h)
    · rcases List.mem_cons.1 h with h | h
      · exact (hne h).elim
      · exact List.mem_append.2 (.inr h)

theorem sorted_del {l : List TChild} (i : Nat) (hs : Sorted l) : Sorted (l.take i ++ l.drop (i + 1)) := by
  unfold Sorted at *
  refine hs.sublist ?_
  conv => rhs; rw [← List.take_append_drop i l]
  exact List.Sublist.append (List.Sublist.refl _) (List.drop_sublist_drop_left _ (by omega))

/-- where it is, if it is there -/
theorem found_at {l : List TChild} {t : TChild} {i : Nat} (hs : Sorted l) (ht : t ∈ l) (h3 : ∀ j, j < i → ordC (l.getD j dC) t < 0) (h4 : ∀ j, i ≤ j → j < l.length → ¬ ordC (l.getD j dC) t < 0) : i < l.length ∧ l.getD i dC = t := by
  obtain ⟨j, hj, e⟩ := List.getElem_of_mem ht
  have ej : l.getD j dC = t := by simp [List.getD_eq_getElem?_getD, List.getElem?_eq_getElem hj, e]
  have hij : i = j := by
    rcases Nat.lt_trichotomy i j with h | h | h
    · refine absurd ?_ (h4 i (Nat.le_refl _) (by omega))
      have := List.pairwise_iff_getElem.1 hs i j (by omega) hj h
      rw [e] at this
      simpa [List.getD_eq_getElem?_getD, List.getElem?_eq_getElem (by omega : i < l.length)] using this
    · exact h
    · have := h3 j h
      rw [ej] at this
      exact (ordC_irrefl _ this).elim
  subst hij
  exact ⟨hj, ej⟩

theorem F_kidsKidsDrop_eq {R : TId → TPlace → Prop} {n : Nat} (k : Nat) (s : TKids) (id : TId) (h : KInv R n s) (hn : n ≤ 2 ^ 40) (hk : n < k + 6) :
    ∃ s', F_kidsKidsDrop (k + 8) s id = some (((mfind eqId s.1 id).isSome, ()), (s', ())) ∧ KInv R n s' ∧ (∀ z, mfind eqId s'.1 z = if z = id then none else mfind eqId s.1 z) := by
  rw [F_kidsKidsDrop_step]
  cases hf : mfind eqId s.1 id with
  | none =>
    have hf' : mfind (denEq (.pair (.int .i64) (.pair (.int .i64) .unit))) s.1 id = none := hf
    refine ⟨s, ?_, h, fun z => ?_⟩
    · rfl
    · split
      · rename_i e; subst e; exact hf
      · rfl
  | some pl =>
    have hf' : mfind (denEq (.pair (.int .i64) (.pair (.int .i64) .unit))) s.1 id = some pl := hf
    simp only [Option.isSome_some, Bool.not_true, br, cond_false, Option.getD_some]
    obtain ⟨i, h1, h2, h3, h4⟩ := F_kidsKidsfind_eq k s id pl (h.sorted _) (Nat.le_trans (h.len _) (by omega)) (Nat.lt_of_le_of_lt (h.len _) hk)
    have hmem : (pl.2.1, (id, ())) ∈ kidsOf s pl.1 := (h.mem pl.1 _).2 hf
    obtain ⟨hi, hti⟩ := found_at (h.sorted _) hmem h3 h4
    have hlen := h.len pl.1
    rw [h2]
    simp only [bd_s]
    rw [mid_succ (by omega)]
    rw [F_slicesDeletekidschild_step]
    change ∃ s', bd (br (decide ((0 : Int) ≤ (i : Int)) && decide ((i : Int) ≤ ((i + 1 : Nat) : Int)) && leB ((i + 1 : Nat) : Int) (kidsOf s pl.1).length && decide (0 < (kidsOf s pl.1).length) && decide ((kidsOf s pl.1).length ≤ 140737488355328)) (some ((List.take (i : Int).toNat (kidsOf s pl.1) ++ List.drop ((i + 1 : Nat) : Int).toNat (kidsOf s pl.1), ()), ())) none) _ = _ ∧ _
    have hc : (decide ((0 : Int) ≤ (i : Int)) && decide ((i : Int) ≤ ((i + 1 : Nat) : Int)) && leB ((i + 1 : Nat) : Int) (kidsOf s pl.1).length && decide (0 < (kidsOf s pl.1).length) && decide ((kidsOf s pl.1).length ≤ 140737488355328)) = true := by
      simp [leB]; omega
    rw [hc]
    simp only [br, cond_true, bd_s, Int.toNat_natCast]
    rw [eqI]
    simp only [decide_true, cond_true]
    obtain ⟨hsp, hdel⟩ := sorted_split (h.sorted _) hi hti
    refine ⟨_, rfl, ?_, fun z => mfind_del h.nodup id z⟩
    have hko : ∀ p, kidsOf (mdel eqId s.1 id, (mput eqId s.2.1 pl.1 (List.take i (kidsOf s pl.1) ++ List.drop (i + 1) (kidsOf s pl.1)), s.2.2)) p = if p = pl.1 then List.take i (kidsOf s pl.1) ++ List.drop (i + 1) (kidsOf s pl.1) else kidsOf s p := fun p => kidsOf_put _ _ _ _ _
    refine ⟨mdel_nodup h.nodup id, fun p => ?_, fun p c => ?_, fun p => ?_, fun z pl' hz => ?_⟩
    · show Sorted (kidsOf (mdel eqId s.1 id, (mput eqId s.2.1 pl.1 _, s.2.2)) p)
      rw [hko]
      split
      · exact sorted_del i (h.sorted _)
      · exact h.sorted p
    · show c ∈ kidsOf (mdel eqId s.1 id, (mput eqId s.2.1 pl.1 _, s.2.2)) p ↔ mfind eqId (mdel eqId s.1 id) c.2.1 = _
      rw [hko, mfind_del h.nodup]
      by_cases hp : p = pl.1
      · subst hp
        rw [if_pos rfl, hdel]
        by_cases hc : c.2.1 = id
        · rw [if_pos hc]
          constructor
          · rintro ⟨g1, g2⟩
            have := (h.mem _ c).1 g1
            rw [hc, hf] at this
            refine (g2 ?_).elim
            obtain ⟨c1, c2, c3⟩ := c
            simp only [Option.some.injEq] at this
            rw [this]
            simp only at hc ⊢
            rw [hc]
          · intro g; cases g
        · rw [if_neg hc, ← h.mem]
          constructor
          · exact fun g => g.1
          · exact fun g => ⟨g, fun e => hc (by rw [e])⟩
      · rw [if_neg hp]
        by_cases hc : c.2.1 = id
        · rw [if_pos hc]
          constructor
          · intro g
            have := (h.mem _ c).1 g
            rw [hc, hf] at this
            simp only [Option.some.injEq] at this
            exact (hp (by rw [this])).elim
          · intro g; cases g
        · rw [if_neg hc, ← h.mem]
    · show (kidsOf (mdel eqId s.1 id, (mput eqId s.2.1 pl.1 _, s.2.2)) p).length ≤ n
      rw [hko]
      split
      · have := h.len pl.1
        simp only [List.length_append, List.length_take, List.length_drop]
        omega
      · exact h.len p
    · have hz' : mfind eqId (mdel eqId s.1 id) z = some pl' := hz
      rw [mfind_del h.nodup] at hz'
      split at hz'
      · cases hz'
      · exact h.right z pl' hz'

end Go.Proofs.YtkfikongenapfaaDoor.E

namespace Go.Proofs.YtkfikongenapfaaDoor.E
open Go
set_option linter.unusedSimpArgs false
set_option linter.unusedVariables false
/-! a child is put -/
theorem sorted_ins {l : List TChild} {t : TChild} {i : Nat} (hs : Sorted l) (hi : i ≤ l.length) (hn : t ∉ l) (h3 : ∀ j, j < i → ordC (l.getD j dC) t < 0) (h4 : ∀ j, i ≤ j → j < l.length → ¬ ordC (l.getD j dC) t < 0) : Sorted (l.take i ++ [t] ++ l.drop i) := by
  have lo : ∀ x ∈ l.take i, ordC x t < 0 := by
    intro x hx
    obtain ⟨j, hj, e⟩ := List.getElem_of_mem hx
    have hj' : j < i ∧ j < l.length := by simp at hj; omega
    have := h3 j hj'.1
    rw [List.getElem_take] at e
    simpa [List.getD_eq_getElem?_getD, List.getElem?_eq_getElem hj'.2, e] using this
  have hi' : ∀ x ∈ l.drop i, ordC t x < 0 := by
    intro x hx
    have hxl := List.mem_of_mem_drop hx
    obtain ⟨j, hj, e⟩ := List.getElem_of_mem hx
    have hj' : i + j < l.length := by simp at hj; omega
    have h5 := h4 (i + j) (by omega) hj'
    rw [List.getElem_drop] at e
    have h6 : ¬ ordC x t < 0 := by simpa [List.getD_eq_getElem?_getD, List.getElem?_eq_getElem hj', e] using h5
    have h7 : ordC x t ≠ 0 := fun e => hn (ordC_zero.1 e ▸ hxl)
    have := ordC_swap x t
    omega
  have hp := hs
  unfold Sorted at hp ⊢
  rw [← List.take_append_drop i l] at hp
  obtain ⟨p1, p2, p3⟩ := List.pairwise_append.1 hp
  rw [List.append_assoc]
  refine List.pairwise_append.2 ⟨p1, ?_, ?_⟩
  · exact List.pairwise_cons.2 ⟨hi', p2⟩
  · intro a ha b hb
    rcases List.mem_cons.1 hb with rfl | hb
    · exact lo a ha
    · exact p3 a ha b hb

theorem KInv.more {R : TId → TPlace → Prop} {n m : Nat} {s : TKids} (h : KInv R n s) (hm : n ≤ m) : KInv R m s := ⟨h.nodup, h.sorted, h.mem, fun p => Nat.le_trans (h.len p) hm, h.right⟩

/-- a child that is not there is put -/
theorem put_inv {R : TId → TPlace → Prop} {n : Nat} {s : TKids} {id : TId} {pl : TPlace} {i : Nat} (h : KInv R n s) (hno : mfind eqId s.1 id = none) (hR : R id pl) (hi : i ≤ (kidsOf s pl.1).length)
    (h3 : ∀ j, j < i → ordC ((kidsOf s pl.1).getD j dC) (pl.2.1, (id, ())) < 0) (h4 : ∀ j, i ≤ j → j < (kidsOf s pl.1).length → ¬ ordC ((kidsOf s pl.1).getD j dC) (pl.2.1, (id, ())) < 0) :
    KInv R (n + 1) (mput eqId s.1 id pl, (mput eqId s.2.1 pl.1 (List.take i (kidsOf s pl.1) ++ [(pl.2.1, (id, ()))] ++ List.drop i (kidsOf s pl.1)), s.2.2)) := by
  have hko : ∀ p, kidsOf (mput eqId s.1 id pl, (mput eqId s.2.1 pl.1 (List.take i (kidsOf s pl.1) ++ [(pl.2.1, (id, ()))] ++ List.drop i (kidsOf s pl.1)), s.2.2)) p = if p = pl.1 then List.take i (kidsOf s pl.1) ++ [(pl.2.1, (id, ()))] ++ List.drop i (kidsOf s pl.1) else kidsOf s p := fun p => kidsOf_put _ _ _ _ _
  have hnot : (pl.2.1, (id, ())) ∉ kidsOf s pl.1 := fun hm => by
    have := (h.mem _ _).1 hm
    simp only at this
    rw [hno] at this; cases this
  refine ⟨mput_nodup h.nodup id pl, fun p => ?_, fun p c => ?_, fun p => ?_, fun z pl' hz => ?_⟩
  · rw [hko]
    split
    · exact sorted_ins (h.sorted _) hi hnot h3 h4
    · exact h.sorted p
  · show c ∈ kidsOf _ p ↔ mfind eqId (mput eqId s.1 id pl) c.2.1 = _
    rw [hko, mfind_put]
    by_cases hp : p = pl.1
    · subst hp
      rw [if_pos rfl]
      have hmem : c ∈ List.take i (kidsOf s pl.1) ++ [(pl.2.1, (id, ()))] ++ List.drop i (kidsOf s pl.1) ↔ c ∈ kidsOf s pl.1 ∨ c = (pl.2.1, (id, ())) := by
        conv => rhs; lhs; rw [← List.take_append_drop i (kidsOf s pl.1)]
        simp only [List.mem_append, List.mem_singleton]
        constructor
        · rintro ((g | g) | g)
          · exact .inl (.inl g)
          · exact .inr g
          · exact .inl (.inr g)
        · rintro ((g | g) | g)
          · exact .inl (.inl g)
          · exact .inr g
          · exact .inl (.inr g)
      rw [hmem]
      by_cases hc : c.2.1 = id
      · rw [if_pos hc]
        constructor
        · rintro (g | rfl)
          · have := (h.mem _ c).1 g
            rw [hc, hno] at this; cases this
          · rfl
        · intro g
          right
          obtain ⟨c1, c2, c3⟩ := c
          simp only [Option.some.injEq] at g
          simp only at hc ⊢
          rw [g, hc]
      · rw [if_neg hc, ← h.mem]
        constructor
        · rintro (g | rfl)
          · exact g
          · exact (hc rfl).elim
        · exact fun g => .inl g
    · rw [if_neg hp]
      by_cases hc : c.2.1 = id
      · rw [if_pos hc]
        constructor
        · intro g
          have := (h.mem _ c).1 g
          rw [hc, hno] at this; cases this
        · intro g
          simp only [Option.some.injEq] at g
          exact (hp (by rw [g])).elim
      · rw [if_neg hc, ← h.mem]
  · rw [hko]
    split
    · have := h.len pl.1
      simp only [List.length_append, List.length_take, List.length_drop, List.length_singleton]
      omega
    · have := h.len p; omega
  · have hz' : mfind eqId (mput eqId s.1 id pl) z = some pl' := hz
    rw [mfind_put] at hz'
    split at hz'
    · rename_i e; subst e
      obtain rfl := Option.some.inj hz'
      exact hR
    · exact h.right z pl' hz'

end Go.Proofs.YtkfikongenapfaaDoor.E

namespace Go.Proofs.YtkfikongenapfaaDoor.E
open Go
set_option linter.unusedSimpArgs false
set_option linter.unusedVariables false
/-- what a place must be to be taken -/
def okSet (id : TId) (pl : TPlace) : Bool := rightOp id && rightBlock pl.1 && rightKey pl.2.1 && !decide (id = pl.1)

theorem F_kidsKidsSet_eq {R : TId → TPlace → Prop} {n : Nat} (k : Nat) (s : TKids) (id : TId) (pl : TPlace) (h : KInv R n s) (hR : okSet id pl = true → R id pl) (hn : n + 1 ≤ 2 ^ 40) (hk : n < k + 6) :
    ∃ s', F_kidsKidsSet (k + 9) s id pl = some (((if okSet id pl = true then (0 : Int) else 10, ()), (s', ()))) ∧ KInv R (n + 1) s' ∧ (∀ z, mfind eqId s'.1 z = if okSet id pl = true ∧ z = id then some pl else mfind eqId s.1 z) := by
  rw [F_kidsKidsSet_step, F_stampRightOp_eq]
  simp only [bd_s, br]
  have no : okSet id pl = false → ∃ s', (some (((10 : Int), ()), (s, ())) : Option (((Int) × (Unit)) × ((TKids) × (Unit)))) = some (((if okSet id pl = true then (0 : Int) else 10, ()), (s', ()))) ∧ KInv R (n + 1) s' ∧ (∀ z, mfind eqId s'.1 z = if okSet id pl = true ∧ z = id then some pl else mfind eqId s.1 z) := by
    intro e
    exact ⟨s, by simp [e], h.more (by omega), fun z => by simp [e]⟩
  cases h1 : rightOp id with
  | false => simp only [Bool.not_false, cond_true]; exact no (by simp [okSet, h1])
  | true =>
    simp only [Bool.not_true, cond_false]
    rw [F_stampRightBlock_eq]
    simp only [bd_s]
    cases h2 : rightBlock pl.1 with
    | false => simp only [Bool.not_false, cond_false, cond_true]; exact no (by simp [okSet, h2])
    | true =>
      simp only [Bool.not_true, cond_false]
      rw [F_fracRight_eq]
      simp only [bd_s, eqI]
      cases h3 : rightKey pl.2.1 with
      | false => simp only [Bool.not_false, cond_false, cond_true]; exact no (by simp [okSet, h3])
      | true =>
        by_cases h4 : id = pl.1
        · simp only [Bool.not_true, cond_false, h4, decide_true, cond_true]
          rw [h4] at no
          exact no (by simp [okSet])
        · simp only [Bool.not_true, cond_false, h4, decide_false]
          have hok : okSet id pl = true := by simp [okSet, h1, h2, h3, h4]
          obtain ⟨s1, g1, g2, g3⟩ := F_kidsKidsDrop_eq k s id h (by omega) hk
          rw [g1]
          simp only [bd_s]
          have hlen := g2.len pl.1
          obtain ⟨i, f1, f2, f3, f4⟩ := F_kidsKidsfind_eq (k + 1) s1 id pl (g2.sorted _) (by omega) (by omega)
          rw [f2]
          simp only [bd_s]
          rw [F_slicesInsertkidschild_step]
          change ∃ s', bd (br (leB (i : Int) (List.length (kidsOf s1 pl.1)) && decide ((List.length (kidsOf s1 pl.1) + 1) * 32 ≤ 140737488355328)) (some ((List.take (i : Int).toNat (kidsOf s1 pl.1) ++ [(pl.2.1, (id, ()))] ++ List.drop (i : Int).toNat (kidsOf s1 pl.1), ()), ())) none) _ = _ ∧ _
          have hc : (leB (i : Int) (List.length (kidsOf s1 pl.1)) && decide ((List.length (kidsOf s1 pl.1) + 1) * 32 ≤ 140737488355328)) = true := by
            simp [leB]; omega
          rw [hc]
          simp only [br, cond_true, bd_s, Int.toNat_natCast]
          simp only [decide_true, cond_true, hok, if_true, true_and]
          have hno : mfind eqId s1.1 id = none := by rw [g3]; simp
          refine ⟨_, rfl, put_inv g2 hno (hR hok) f1 f3 f4, fun z => ?_⟩
          show mfind eqId (mput eqId s1.1 id pl) z = _
          rw [mfind_put, g3]
          by_cases hz : z = id
          · simp [hz]
          · simp [hz]

theorem KInv.new (R : TId → TPlace → Prop) : KInv R 0 (([] : List ((TId) × (TPlace))), (([] : List ((TId) × (List (TChild)))), ())) :=
  ⟨by simp, fun p => by simp [kidsOf, mfind, Sorted], fun p c => by simp [kidsOf, mfind], fun p => by simp [kidsOf, mfind], fun id pl e => by simp [mfind] at e⟩

end Go.Proofs.YtkfikongenapfaaDoor.E

namespace Go.Proofs.YtkfikongenapfaaDoor.E
open Go
set_option linter.unusedSimpArgs false
set_option linter.unusedVariables false
/-! a child's index, and its neighbours -/
theorem F_kidsKidsIndex_eq {R : TId → TPlace → Prop} {n k : Nat} {s : TKids} {id : TId} {pl : TPlace} (h : KInv R n s) (hf : mfind eqId s.1 id = some pl) (hn : n ≤ 2 ^ 40) (hk : n < k + 6) :
    ∃ i : Nat, i < (kidsOf s pl.1).length ∧ (kidsOf s pl.1).getD i dC = (pl.2.1, (id, ())) ∧ F_kidsKidsIndex (k + 8) s id = some (((i : Int), (true, ())), ()) := by
  rw [F_kidsKidsIndex_step]
  have h' : mfind (denEq (.pair (.int .i64) (.pair (.int .i64) .unit))) s.1 id = some pl := hf
  simp only [h', Option.isSome_some, Bool.not_true, br, cond_false, Option.getD_some]
  have hlen := h.len pl.1
  obtain ⟨i, f1, f2, f3, f4⟩ := F_kidsKidsfind_eq k s id pl (h.sorted _) (by omega) (by omega)
  have hmem : (pl.2.1, (id, ())) ∈ kidsOf s pl.1 := (h.mem pl.1 _).2 hf
  obtain ⟨g1, g2⟩ := found_at (h.sorted _) hmem f3 f4
  refine ⟨i, g1, g2, ?_⟩
  rw [f2, decide_eq_true (⟨g1, g2⟩ : i < (kidsOf s pl.1).length ∧ (kidsOf s pl.1).getD i dC = (pl.2.1, (id, ())))]
  rfl

theorem F_kidsKidsAhead_eq {R : TId → TPlace → Prop} {n k : Nat} {s : TKids} {id : TId} {pl : TPlace} (h : KInv R n s) (hf : mfind eqId s.1 id = some pl) (hn : n ≤ 2 ^ 40) (hk : n < k + 6) :
    ∃ i : Nat, i < (kidsOf s pl.1).length ∧ (kidsOf s pl.1).getD i dC = (pl.2.1, (id, ())) ∧
      F_kidsKidsAhead (k + 10) s id = some (if i = 0 then (((((0 : Int), ((0 : Int), ())) : TId), (false, ())), ()) else ((((kidsOf s pl.1).getD (i - 1) dC).2.1, (true, ())), ())) := by
  obtain ⟨i, g1, g2, g3⟩ := F_kidsKidsIndex_eq h hf hn hk
  refine ⟨i, g1, g2, ?_⟩
  have hlen := h.len pl.1
  rw [F_kidsKidsAhead_step, F_kidsKidsnear_step, g3]
  have h' : mfind (denEq (.pair (.int .i64) (.pair (.int .i64) .unit))) s.1 id = some pl := hf
  simp only [bd_s, br, Bool.not_true, cond_false, h', Option.getD_some]
  have hw : IntKind.wrap IntKind.i64 ((i : Int) + (-1 : Int)) = (i : Int) - 1 := by
    simp [IntKind.wrap, IntKind.bits, IntKind.signed]; omega
  rw [hw]
  by_cases hi : i = 0
  · subst hi
    simp
  · have e1 : decide ((i : Int) - 1 < 0) = false := by simp; omega
    have e2 : decide ((i : Int) - 1 ≥ (((kidsOf s pl.1).length : Nat) : Int)) = false := by simp; omega
    have e3 : inB ((i : Int) - 1) (kidsOf s pl.1).length = true := by simp [inB]; omega
    have e4 : ((i : Int) - 1).toNat = i - 1 := by omega
    change bd (cond (cond (decide ((i : Int) - 1 < 0)) true (decide ((i : Int) - 1 ≥ (((kidsOf s pl.1).length : Nat) : Int)))) _ (cond (inB ((i : Int) - 1) (kidsOf s pl.1).length) (some ((((kidsOf s pl.1).getD ((i : Int) - 1).toNat dC).2.1, (true, ())), ())) none)) _ = _
    rw [e1, e2, e3, e4, if_neg hi]
    rfl

end Go.Proofs.YtkfikongenapfaaDoor.E

namespace Go.Proofs.YtkfikongenapfaaDoor.E
open Go
set_option linter.unusedSimpArgs false
set_option linter.unusedVariables false
/-! the key behind a gap -/
/-- its key is above -/
def gtK (low : List UInt8) (c : TChild) : Bool := !((Op.bytesLess c.1 low) || (c.1 == low))

theorem L_gap_eq (k : Nat) (l : List TChild) (low : List UInt8) (x0 : Int) (hlen : l.length ≤ 2 ^ 40) : ∀ (m x1 : Nat), x1 ≤ l.length → l.length - x1 < m →
    (∃ j : Nat, x1 ≤ j ∧ j < l.length ∧ (∀ i, x1 ≤ i → i < j → gtK low (l.getD i dC) = false) ∧ gtK low (l.getD j dC) = true ∧
      L_kidsKidsGap_44_slicesIndexFunckidschild_0 k l () ((l.length : Nat) : Int) m (x0, ((x1 : Int), (low, ()))) = some (.ret ((j : Int), ()) (low, ()))) ∨
    ((∀ i, x1 ≤ i → i < l.length → gtK low (l.getD i dC) = false) ∧
      L_kidsKidsGap_44_slicesIndexFunckidschild_0 k l () ((l.length : Nat) : Int) m (x0, ((x1 : Int), (low, ()))) = some (.brk (x0, (((l.length : Nat) : Int), (low, ()))))) := by
  intro m
  induction m with
  | zero => intro x1 _ h; omega
  | succ m ih =>
    intro x1 h1 hm
    rw [L_kidsKidsGap_44_slicesIndexFunckidschild_0_step]
    by_cases hx : x1 < l.length
    · have e1 : decide ((x1 : Int) < ((l.length : Nat) : Int)) = true := by simp [hx]
      have e2 : inB (x1 : Int) l.length = true := by simp [inB, hx]
      rw [e1, e2]
      change (∃ j : Nat, x1 ≤ j ∧ j < l.length ∧ (∀ i, x1 ≤ i → i < j → gtK low (l.getD i dC) = false) ∧ gtK low (l.getD j dC) = true ∧ cond (gtK low (l.getD ((x1 : Int).toNat) dC)) _ _ = _) ∨ (_ ∧ cond (gtK low (l.getD ((x1 : Int).toNat) dC)) _ _ = _)
      rw [Int.toNat_natCast]
      cases hg : gtK low (l.getD x1 dC) with
      | true => exact .inl ⟨x1, Nat.le_refl _, hx, fun i hi hi' => by omega, hg, rfl⟩
      | false =>
        simp only [cond_false]
        rw [mid_succ (by omega)]
        rcases ih (x1 + 1) (by omega) (by omega) with ⟨j, g1, g2, g3, g4, g5⟩ | ⟨g1, g2⟩
        · refine .inl ⟨j, by omega, g2, fun i hi hi' => ?_, g4, g5⟩
          rcases Nat.eq_or_lt_of_le hi with e | h
          · subst e; exact hg
          · exact g3 i h hi'
        · refine .inr ⟨fun i hi hi' => ?_, g2⟩
          rcases Nat.eq_or_lt_of_le hi with e | h
          · subst e; exact hg
          · exact g1 i h hi'
    · have e : x1 = l.length := by omega
      subst e
      refine .inr ⟨fun i hi hi' => by omega, ?_⟩
      simp [br]

end Go.Proofs.YtkfikongenapfaaDoor.E

namespace Go.Proofs.YtkfikongenapfaaDoor.E
open Go
set_option linter.unusedSimpArgs false
set_option linter.unusedVariables false
abbrev zId : TId := ((0 : Int), ((0 : Int), ()))

/-- the key ahead of a gap -/
def lowOf (s : TKids) (parent behind : TId) : Option (List UInt8) :=
  if behind = zId then some [] else match mfind eqId s.1 behind with
    | some pl => if pl.1 = parent then some pl.2.1 else none
    | none => none

/-- what a gap comes to -/
def GapAns (l : List TChild) (low : List UInt8) (r : Option (((List (UInt8)) × ((List (UInt8)) × ((Int) × (Unit)))) × (Unit))) : Prop :=
  (∃ j : Nat, j < l.length ∧ (∀ i, i < j → gtK low (l.getD i dC) = false) ∧ gtK low (l.getD j dC) = true ∧ r = some ((low, ((l.getD j dC).1, ((0 : Int), ()))), ())) ∨
  ((∀ i, i < l.length → gtK low (l.getD i dC) = false) ∧ r = some ((low, (([] : List UInt8), ((0 : Int), ()))), ()))

theorem gap_tail (k : Nat) (l : List TChild) (low : List UInt8) (hlen : l.length ≤ 2 ^ 40) (hk : l.length < k) : GapAns l low
    (bdL (L_kidsKidsGap_44_slicesIndexFunckidschild_0 k l () (((List.length l) : Nat) : Int) k ((0 : Int), ((0 : Int), (low, ()))))
     (fun (b : (Int) × ((Int) × ((List (UInt8)) × (Unit)))) => (some ((b.2.2.1, (([] : List UInt8), ((0 : Int), ()))), ())))
     (fun (j : Nat) => (fun (b : (Int) × ((Int) × ((List (UInt8)) × (Unit)))) => none))
     (fun (q : (Int) × (Unit)) => (fun (b : (List (UInt8)) × (Unit)) => (br (decide (q.1 < (0 : Int)))
      (some ((b.1, (([] : List UInt8), ((0 : Int), ()))), ()))
      (br (inB q.1 (List.length l))
       (some ((b.1, ((List.getD l (Int.toNat q.1) (([] : List (UInt8)), (((0 : Int), ((0 : Int), ())), ()))).1, ((0 : Int), ()))), ()))
       none))))) := by
  rcases L_gap_eq k l low 0 hlen k 0 (by omega) (by omega) with ⟨j, _, g2, g3, g4, g5⟩ | ⟨g1, g2⟩
  · refine .inl ⟨j, g2, fun i hi => g3 i (by omega) hi, g4, ?_⟩
    rw [show ((0 : Int), ((0 : Int), (low, ()))) = ((0 : Int), (((0 : Nat) : Int), (low, ()))) from rfl, g5]
    have e1 : decide ((j : Int) < 0) = false := by simp
    have e2 : inB (j : Int) l.length = true := by simp [inB, g2]
    simp only [bdL, e1, e2, br, cond_false, cond_true, Int.toNat_natCast]
    rfl
  · refine .inr ⟨fun i hi => g1 i (by omega) hi, ?_⟩
    rw [show ((0 : Int), ((0 : Int), (low, ()))) = ((0 : Int), (((0 : Nat) : Int), (low, ()))) from rfl, g2]
    rfl

theorem F_kidsKidsGap_eq (k : Nat) (s : TKids) (parent behind : TId) (hlen : (kidsOf s parent).length ≤ 2 ^ 40) (hk : (kidsOf s parent).length < k) :
    (lowOf s parent behind = none → F_kidsKidsGap (k + 1) s parent behind = some ((([] : List UInt8), (([] : List UInt8), ((13 : Int), ()))), ())) ∧
    (∀ low, lowOf s parent behind = some low → GapAns (kidsOf s parent) low (F_kidsKidsGap (k + 1) s parent behind)) := by
  rw [F_kidsKidsGap_step, eqI]
  by_cases hb : behind = zId
  · have e : (decide (behind = ((0 : Int), ((0 : Int), ())))) = true := by simp [hb]
    rw [e]
    simp only [Bool.not_true, br, cond_false]
    refine ⟨fun h => by simp [lowOf, hb] at h, fun low h => ?_⟩
    have hl : low = [] := by simp [lowOf, hb] at h; first | exact h | exact h.symm
    subst hl
    exact gap_tail k (kidsOf s parent) [] hlen hk
  · have e : (decide (behind = ((0 : Int), ((0 : Int), ())))) = false := by simpa using hb
    rw [e]
    simp only [Bool.not_false, br, cond_true]
    cases hf : mfind eqId s.1 behind with
    | none =>
      have hf' : mfind (denEq (.pair (.int .i64) (.pair (.int .i64) .unit))) s.1 behind = none := hf
      simp only [hf', Option.isSome_none, Bool.not_false, cond_true]
      exact ⟨fun _ => by first | trivial | rfl, fun low h => by simp [lowOf, hb, hf] at h⟩
    | some pl =>
      have hf' : mfind (denEq (.pair (.int .i64) (.pair (.int .i64) .unit))) s.1 behind = some pl := hf
      simp only [hf', Option.isSome_some, Bool.not_true, cond_false, Option.getD_some]
      rw [eqI]
      by_cases hp : pl.1 = parent
      · simp only [hp, decide_true, Bool.not_true, cond_false]
        refine ⟨fun h => by simp [lowOf, hb, hf, hp] at h, fun low h => ?_⟩
        have hl : low = pl.2.1 := by simp [lowOf, hb, hf, hp] at h; exact h.symm
        subst hl
        exact gap_tail k (kidsOf s parent) pl.2.1 hlen hk
      · simp only [hp, decide_false, Bool.not_false, cond_true]
        exact ⟨fun _ => trivial, fun low h => by simp [lowOf, hb, hf, hp] at h⟩

end Go.Proofs.YtkfikongenapfaaDoor.E

namespace Go.Proofs.YtkfikongenapfaaDoor.E
open Go
set_option linter.unusedSimpArgs false
set_option linter.unusedVariables false
/-! the law's rows of calls -/
def fresh : TId := ((15 : Int), ((1048576 : Int), ()))

def Rk (id : TId) (pl : TPlace) : Prop := okSet id pl = true ∧ id ≠ fresh

theorem L_new_eq (k : Nat) (l : List TCall) (x0 : Bool) (hl : l.length ≤ 60) (hk : 100 ≤ k) : ∀ (m x1 : Nat) (s : TKids), x1 ≤ l.length → l.length - x1 < m → KInv Rk x1 s →
    (∃ s', L_law14KidsNew_0 (k + 9) l () fresh m (x0, ((x1 : Int), (s, ()))) = some (.ret (true, ()) (s', ()))) ∨
    (∃ s', KInv Rk l.length s' ∧ L_law14KidsNew_0 (k + 9) l () fresh m (x0, ((x1 : Int), (s, ()))) = some (.brk (x0, (((l.length : Nat) : Int), (s', ()))))) := by
  intro m
  induction m with
  | zero => intro x1 s _ h; omega
  | succ m ih =>
    intro x1 s h1 hm hs
    rw [L_law14KidsNew_0_step]
    by_cases hx : x1 < l.length
    · have e1 : decide ((x1 : Int) < ((l.length : Nat) : Int)) = true := by simp [hx]
      have e2 : inB (x1 : Int) l.length = true := by simp [inB, hx]
      rw [e1, e2]
      simp only [br, cond_true, Int.toNat_natCast]
      rw [eqI]
      generalize hc : (l.getD x1 ((0 : Int), (((0 : Int), ((0 : Int), ())), ((((0 : Int), ((0 : Int), ())), (([] : List (UInt8)), ())), ())))) = c
      by_cases hf : c.2.1 = fresh
      · have : decide (c.2.1 = fresh) = true := by simp [hf]
        rw [this]
        exact .inl ⟨s, rfl⟩
      · have : decide (c.2.1 = fresh) = false := by simp [hf]
        rw [this]
        simp only [cond_false]
        cases hw : (c.1 == (0 : Int)) with
        | true =>
          simp only [cond_true]
          obtain ⟨s', g1, g2, _⟩ := F_kidsKidsSet_eq k s c.2.1 c.2.2.1 hs (fun ho => ⟨ho, hf⟩) (by omega) (by omega)
          rw [g1]
          simp only [bd_s]
          rw [mid_succ (by omega)]
          exact ih (x1 + 1) s' (by omega) (by omega) g2
        | false =>
          simp only [cond_false]
          obtain ⟨s', g1, g2, _⟩ := F_kidsKidsDrop_eq (k + 1) s c.2.1 hs (by omega) (by omega)
          rw [g1]
          simp only [bd_s]
          rw [mid_succ (by omega)]
          exact ih (x1 + 1) s' (by omega) (by omega) (g2.more (by omega))
    · have e : x1 = l.length := by omega
      subst e
      refine .inr ⟨s, hs, ?_⟩
      simp [br]

theorem L_great_eq (k : Nat) (l : List TCall) (x0 : Bool) (hl : l.length ≤ 60) : ∀ (m x1 : Nat), x1 ≤ l.length → l.length - x1 < m →
    L_law14great_0 k l m (x0, ((x1 : Int), ())) = some (.ret (true, ()) ()) ∨ L_law14great_0 k l m (x0, ((x1 : Int), ())) = some (.brk (x0, (((l.length : Nat) : Int), ()))) := by
  intro m
  induction m with
  | zero => intro x1 _ h; omega
  | succ m ih =>
    intro x1 h1 hm
    rw [L_law14great_0_step]
    by_cases hx : x1 < l.length
    · have e1 : decide ((x1 : Int) < ((l.length : Nat) : Int)) = true := by simp [hx]
      have e2 : inB (x1 : Int) l.length = true := by simp [inB, hx]
      rw [e1, e2]
      simp only [br, cond_true, Int.toNat_natCast]
      rw [mid_succ (by omega)]
      cases hc : decide ((((List.length (List.getD l x1 ((0 : Int), (((0 : Int), ((0 : Int), ())), ((((0 : Int), ((0 : Int), ())), (([] : List (UInt8)), ())), ())))).2.2.1.2.1) : Nat) : Int) > (200 : Int)) with
      | true => exact .inl rfl
      | false => exact ih (x1 + 1) (by omega) (by omega)
    · have e : x1 = l.length := by omega
      subst e
      refine .inr ?_
      simp [br]

/-- few calls, or it is great -/
theorem F_great_eq (k : Nat) (l : List TCall) (hk : 100 ≤ k) : F_law14great (k + 1) l = some ((true, ()), ()) ∨ (l.length ≤ 60 ∧ F_law14great (k + 1) l = some ((false, ()), ())) := by
  rw [F_law14great_step]
  by_cases h : l.length > 60
  · have : decide ((((List.length l) : Nat) : Int) > (60 : Int)) = true := by simp; omega
    rw [this]
    exact .inl rfl
  · have : decide ((((List.length l) : Nat) : Int) > (60 : Int)) = false := by simp; omega
    rw [this]
    simp only [br, cond_false]
    rcases L_great_eq k l false (by omega) k 0 (by omega) (by omega) with g | g
    · rw [show ((0 : Int), ()) = (((0 : Nat) : Int), ()) from rfl, g]
      exact .inl rfl
    · rw [show ((0 : Int), ()) = (((0 : Nat) : Int), ()) from rfl, g]
      exact .inr ⟨by omega, rfl⟩

end Go.Proofs.YtkfikongenapfaaDoor.E

namespace Go.Proofs.YtkfikongenapfaaDoor.E
open Go
set_option linter.unusedSimpArgs false
set_option linter.unusedVariables false
/-! two ways of comparing bytes -/
theorem less_cmp : ∀ (a b : List UInt8), Op.bytesLess a b = decide (Lib.compareBytes a b < 0)
  | [], [] => by simp [Op.bytesLess, Lib.compareBytes]
  | [], _ :: _ => by simp [Op.bytesLess, Lib.compareBytes]
  | _ :: _, [] => by simp [Op.bytesLess, Lib.compareBytes]
  | a :: x, b :: y => by
    unfold Op.bytesLess Lib.compareBytes
    by_cases h1 : a < b
    · simp [h1]
    · by_cases h2 : b < a
      · have hne : a ≠ b := by rintro rfl; exact absurd h2 (UInt8.lt_irrefl _)
        simp [h1, h2, hne]
      · have e : a = b := UInt8.le_antisymm (UInt8.not_lt.1 h2) (UInt8.not_lt.1 h1)
        subst e
        simp [h1, less_cmp x y]

/-- above, by comparing -/
theorem gtK_iff {low : List UInt8} {c : TChild} : gtK low c = true ↔ Lib.compareBytes low c.1 < 0 := by
  have hs := cmpB_swap low c.1
  have hz := @cmpB_zero c.1 low
  unfold gtK
  rw [less_cmp]
  simp only [Bool.not_eq_true', Bool.or_eq_false_iff, decide_eq_false_iff_not, beq_eq_false_iff_ne, ne_eq]
  rw [← hz]
  omega

/-- a child whose key isn't above -/
theorem gtK_false {low : List UInt8} {c : TChild} : gtK low c = false ↔ ¬ Lib.compareBytes low c.1 < 0 := by
  rw [← gtK_iff]; simp

/-- the key of a child that stands ahead is no greater -/
theorem key_le {a b : TChild} (h : ordC a b < 0) : ¬ Lib.compareBytes b.1 a.1 < 0 := by
  rw [ordC_neg] at h
  have := cmpB_swap a.1 b.1
  rcases h with h | ⟨h, _⟩
  · omega
  · rw [← h, cmpB_zero.2 rfl]; omega

end Go.Proofs.YtkfikongenapfaaDoor.E

namespace Go.Proofs.YtkfikongenapfaaDoor.E
open Go
set_option linter.unusedSimpArgs false
set_option linter.unusedVariables false
/-! who stands ahead of what is put into a gap -/
theorem KInv.imp {R R' : TId → TPlace → Prop} {n : Nat} {s : TKids} (h : KInv R n s) (hi : ∀ id pl, R id pl → R' id pl) : KInv R' n s := ⟨h.nodup, h.sorted, h.mem, h.len, fun id pl e => hi id pl (h.right id pl e)⟩

theorem key_ne {id : TId} {pl : TPlace} (h : okSet id pl = true) : pl.2.1 ≠ [] := by
  intro e
  unfold okSet at h
  simp only [Bool.and_eq_true] at h
  have := h.1.2
  rw [e] at this
  simp [rightKey] at this

/-- no child above the gap's low key stands ahead of a key between -/
theorem none_above {l : List TChild} {low key : List UInt8} {r : Option (((List (UInt8)) × ((List (UInt8)) × ((Int) × (Unit)))) × (Unit))} (hs : Sorted l) (hne : ∀ c ∈ l, c.1 ≠ []) {high : List UInt8}
    (hg : GapAns l low r) (hr : r = some ((low, (high, ((0 : Int), ()))), ())) (hb : high ≠ [] → Lib.compareBytes key high < 0) {c : TChild} (hc : c ∈ l) (hlt : ¬ Lib.compareBytes key c.1 < 0) : gtK low c = false := by
  obtain ⟨i, hi, e⟩ := List.getElem_of_mem hc
  have ei : l.getD i dC = c := by simp [List.getD_eq_getElem?_getD, List.getElem?_eq_getElem hi, e]
  rcases hg with ⟨j, g2, g3, g4, g5⟩ | ⟨g1, g2⟩
  · rw [hr] at g5
    simp only [Option.some.injEq, Prod.mk.injEq, true_and, and_true] at g5
    have hmem : l.getD j dC ∈ l := by
      simp only [List.getD_eq_getElem?_getD, List.getElem?_eq_getElem g2, Option.getD_some]
      exact List.getElem_mem g2
    have hkh := hb (by rw [g5]; exact hne _ hmem)
    rcases Nat.lt_or_ge i j with h | h
    · rw [← ei]; exact g3 i h
    · exfalso
      apply hlt
      rcases Nat.eq_or_lt_of_le h with h | h
      · subst h; rw [← ei, ← g5]; exact hkh
      · have hp := List.pairwise_iff_getElem.1 hs j i g2 hi h
        have hp' : ordC (l.getD j dC) c < 0 := by
          rw [← e]; simpa [List.getD_eq_getElem?_getD, List.getElem?_eq_getElem g2] using hp
        rw [ordC_neg, ← g5] at hp'
        rcases hp' with hp' | ⟨hp', _⟩
        · exact cmpB_trans hkh hp'
        · rw [← hp']; exact hkh
  · rw [← ei]; exact g1 i hi

end Go.Proofs.YtkfikongenapfaaDoor.E

namespace Go.Proofs.YtkfikongenapfaaDoor.E
open Go
set_option linter.unusedSimpArgs false
set_option linter.unusedVariables false
/-! the law, but for its examples and the keys between -/
/-- what is asked of a key between -/
def BtwOk (k : Nat) : Prop := ∀ low high : List UInt8, ∃ key f, F_ref04Between k low high = some ((key, (f, ())), ()) ∧ (f = 0 → Lib.compareBytes low key < 0 ∧ (high ≠ [] → Lib.compareBytes key high < 0))

theorem KidsNew_core (k : Nat) (hk : 200 ≤ k) (hal : F_law14alive (k + 12) = some ((true, ()), ())) (hbt : BtwOk (k + 12)) (a0 : List TCall) (a1 a2 : TId) : F_law14KidsNew (k + 13) a0 a1 a2 = some ((true, ()), ()) := by
  rw [F_law14KidsNew_step, hal]
  simp only [bd_s, Bool.not_true, br, cond_false]
  rcases F_great_eq (k + 11) a0 (by omega) with hg | ⟨hl, hg⟩
  · rw [hg]; rfl
  rw [hg]
  simp only [bd_s, cond_false]
  rw [F_kidsNew_step]
  simp only [bd_s]
  rcases L_new_eq (k + 3) a0 false hl (by omega) (k + 12) 0 _ (by omega) (by omega) (KInv.new Rk) with ⟨s, hL⟩ | ⟨s, hs, hL⟩
  · change bdL (L_law14KidsNew_0 (k + 3 + 9) a0 () fresh (k + 12) (false, (((0 : Nat) : Int), ((([] : List ((TId) × (TPlace))), (([] : List ((TId) × (List (TChild)))), ())), ())))) _ _ _ = _
    rw [hL]; rfl
  change bdL (L_law14KidsNew_0 (k + 3 + 9) a0 () fresh (k + 12) (false, (((0 : Nat) : Int), ((([] : List ((TId) × (TPlace))), (([] : List ((TId) × (List (TChild)))), ())), ())))) _ _ _ = _
  rw [hL]
  simp only [bdL]
  have hlen := hs.len a1
  obtain ⟨gN, gS⟩ := F_kidsKidsGap_eq (k + 11) s a1 a2 (by omega) (by omega)
  cases hlow : lowOf s a1 a2 with
  | none => rw [gN hlow]; rfl
  | some low =>
    have hgap := gS low hlow
    have hans : ∃ high, F_kidsKidsGap (k + 12) s a1 a2 = some ((low, (high, ((0 : Int), ()))), ()) := by
      rcases hgap with ⟨j, _, _, _, e⟩ | ⟨_, e⟩
      · exact ⟨_, e⟩
      · exact ⟨_, e⟩
    obtain ⟨high, hr⟩ := hans
    rw [hr]
    simp only [bd_s, bne_self_eq_false, cond_false]
    obtain ⟨key, f, hb, hbs⟩ := hbt low high
    rw [hb]
    simp only [bd_s]
    by_cases hf : f = 0
    case neg =>
      have : (f != 0) = true := by simp [hf]
      rw [this]; rfl
    subst hf
    obtain ⟨hb1, hb2⟩ := hbs rfl
    simp only [bne_self_eq_false, cond_false]
    have hs0 : KInv (fun id pl => okSet id pl = true) a0.length s := hs.imp fun id pl h => h.1
    obtain ⟨s', hset, hs', hfind⟩ := F_kidsKidsSet_eq (k + 3) s fresh (a1, (key, ())) hs0 (fun h => h) (by omega) (by omega)
    change bd (F_kidsKidsSet (k + 3 + 9) s fresh (a1, (key, ()))) _ = _
    rw [hset]
    simp only [bd_s]
    cases hok : okSet fresh (a1, (key, ())) with
    | false => rfl
    | true =>
      simp only [if_true, bne_self_eq_false, cond_false]
      simp only [hok, true_and] at hfind
      have hfr : mfind eqId s'.1 fresh = some (a1, (key, ())) := by rw [hfind]; simp
      obtain ⟨i, hi, hti, hahead⟩ := F_kidsKidsAhead_eq (k := k + 2) hs' hfr (by omega) (by omega)
      change bd (F_kidsKidsAhead (k + 2 + 10) s' fresh) _ = _
      rw [hahead]
      simp only [] at hi hti
      -- the children of the parent
      have hnf : ∀ p, mfind eqId s.1 fresh ≠ some p := fun p e => (hs.right _ _ e).2 rfl
      have hmem : ∀ c, c ∈ kidsOf s' a1 → ordC c (key, (fresh, ())) < 0 → c ∈ kidsOf s a1 := by
        intro c hc hlt
        have h1 := (hs'.mem a1 c).1 hc
        rw [hfind] at h1
        split at h1
        · rename_i hcf
          exfalso
          have : c = (key, (fresh, ())) := by
            obtain ⟨c1, c2, c3⟩ := c
            simp only [Option.some.injEq, Prod.mk.injEq, true_and, and_true] at h1
            simp only at hcf
            rw [← h1, hcf]
          rw [this] at hlt
          exact ordC_irrefl _ hlt
        · exact (hs.mem a1 c).2 h1
      have hne : ∀ c ∈ kidsOf s a1, c.1 ≠ [] := fun c hc => key_ne (hs.right _ _ ((hs.mem a1 c).1 hc)).1
      have hnoab : ∀ c, c ∈ kidsOf s' a1 → ordC c (key, (fresh, ())) < 0 → gtK low c = false := by
        intro c hc hlt
        exact none_above (hs.sorted a1) hne hgap hr hb2 (hmem c hc hlt) (key_le hlt)
      have hprev : i ≠ 0 → (kidsOf s' a1).getD (i - 1) dC ∈ kidsOf s' a1 ∧ ordC ((kidsOf s' a1).getD (i - 1) dC) (key, (fresh, ())) < 0 := by
        intro hi0
        have h1 : i - 1 < (kidsOf s' a1).length := by omega
        refine ⟨by simp only [List.getD_eq_getElem?_getD, List.getElem?_eq_getElem h1, Option.getD_some]; exact List.getElem_mem h1, ?_⟩
        have := List.pairwise_iff_getElem.1 (hs'.sorted a1) (i - 1) i h1 hi (by omega)
        rw [← hti]
        simpa [List.getD_eq_getElem?_getD, List.getElem?_eq_getElem h1, List.getElem?_eq_getElem hi] using this
      by_cases hz : a2 = zId
      · -- behind none
        have hlo : low = [] := by simp [lowOf, hz] at hlow; first | exact hlow | exact hlow.symm
        have hi0 : i = 0 := by
          by_cases hi0 : i = 0
          · exact hi0
          · obtain ⟨p1, p2⟩ := hprev hi0
            have h2 := hnoab _ p1 p2
            have h3 := hne _ (hmem _ p1 p2)
            rw [gtK_false, hlo] at h2
            exfalso
            apply h2
            cases hq : ((kidsOf s' a1).getD (i - 1) dC).1 with
            | nil => exact (h3 hq).elim
            | cons b bs' => simp [Lib.compareBytes]
        rw [if_pos hi0]
        simp only [bd_s, eqI]
        have : decide (a2 = ((0 : Int), ((0 : Int), ()))) = true := by simp [hz]
        rw [this]; rfl
      · have hlow' : ∃ pl, mfind eqId s.1 a2 = some pl ∧ pl.1 = a1 ∧ pl.2.1 = low := by
          unfold lowOf at hlow
          rw [if_neg hz] at hlow
          cases hf2 : mfind eqId s.1 a2 with
          | none => simp [hf2] at hlow
          | some pl =>
            simp only [hf2] at hlow
            split at hlow
            · rename_i hp; exact ⟨pl, rfl, hp, Option.some.inj hlow⟩
            · cases hlow
        obtain ⟨pl, hp1, hp2, hp3⟩ := hlow'
        have ha2 : a2 ≠ fresh := fun e => hnf pl (by rw [← e]; exact hp1)
        have hp1' : mfind eqId s'.1 a2 = some pl := by rw [hfind, if_neg ha2]; exact hp1
        have hbm : (low, (a2, ())) ∈ kidsOf s' a1 := (hs'.mem a1 (low, (a2, ()))).2 (by simp only; rw [hp1', ← hp2, ← hp3])
        have hblt : ordC (low, (a2, ())) (key, (fresh, ())) < 0 := by rw [ordC_neg]; exact .inl hb1
        obtain ⟨q, hq, eq⟩ := List.getElem_of_mem hbm
        have hqi : q < i := by
          rcases Nat.lt_trichotomy q i with h | h | h
          · exact h
          · subst h
            rw [List.getD_eq_getElem?_getD, List.getElem?_eq_getElem hq, Option.getD_some, eq] at hti
            rw [hti] at hblt
            exact (ordC_irrefl _ hblt).elim
          · have := List.pairwise_iff_getElem.1 (hs'.sorted a1) i q hi hq h
            rw [eq] at this
            have hti' : (kidsOf s' a1)[i] = (key, (fresh, ())) := by simpa [List.getD_eq_getElem?_getD, List.getElem?_eq_getElem hi] using hti
            rw [hti'] at this
            exact (ordC_irrefl _ (ordC_trans hblt this)).elim
        have hi0 : i ≠ 0 := by omega
        obtain ⟨p1, p2⟩ := hprev hi0
        generalize hcc : (kidsOf s' a1).getD (i - 1) dC = c at p1 p2
        have hge : ¬ Lib.compareBytes c.1 low < 0 := by
          rcases Nat.eq_or_lt_of_le (show q ≤ i - 1 by omega) with h | h
          · have : c = (low, (a2, ())) := by rw [← hcc, ← h, List.getD_eq_getElem?_getD, List.getElem?_eq_getElem hq, Option.getD_some, eq]
            rw [this]; rw [cmpB_zero.2 rfl]; omega
          · have h1 : i - 1 < (kidsOf s' a1).length := by omega
            have := List.pairwise_iff_getElem.1 (hs'.sorted a1) q (i - 1) hq h1 h
            rw [eq] at this
            have hc' : (kidsOf s' a1)[i - 1] = c := by simpa [List.getD_eq_getElem?_getD, List.getElem?_eq_getElem h1] using hcc
            rw [hc'] at this
            exact key_le this
        have hle := gtK_false.1 (hnoab c p1 p2)
        have hkey : c.1 = low := by
          have := cmpB_swap low c.1
          exact cmpB_zero.1 (by omega)
        have hcm := (hs'.mem a1 c).1 p1
        rw [if_neg hi0]
        simp only [bd_s, eqI, hcc]
        have e1 : decide (a2 = ((0 : Int), ((0 : Int), ()))) = false := by simpa using hz
        rw [e1]
        simp only [cond_false]
        rw [F_kidsKidsPlace_step, F_kidsKidsPlace_step]
        have hcm' : mfind (denEq (.pair (.int .i64) (.pair (.int .i64) .unit))) s'.1 c.2.1 = some (a1, (c.1, ())) := hcm
        have hp1'' : mfind (denEq (.pair (.int .i64) (.pair (.int .i64) .unit))) s'.1 a2 = some pl := hp1'
        rw [hcm', hp1'']
        simp [hkey, hp3]

end Go.Proofs.YtkfikongenapfaaDoor.E

namespace Go.Proofs.YtkfikongenapfaaDoor.E
open Go
set_option linter.unusedSimpArgs false
set_option linter.unusedVariables false
/-! ref00.Texts -/
theorem drop_getD {l : List UInt8} {i : Nat} (h : i < l.length) : l.drop i = l.getD i 0 :: l.drop (i + 1) := by
  rw [List.drop_eq_getElem_cons h]
  simp [List.getD_eq_getElem?_getD, List.getElem?_eq_getElem h]

theorem cmpB_len {a b : List UInt8} (h : a = [] ∨ b = []) : Lib.compareBytes a b = if a.length < b.length then -1 else if b.length < a.length then 1 else 0 := by
  cases a <;> cases b <;> simp [Lib.compareBytes] at h ⊢

theorem L_texts_eq (k : Nat) (a b : List UInt8) (x0 : Int) (ha : a.length ≤ 2 ^ 40) : ∀ (m i : Nat), a.length - i < m → Lib.compareBytes a b = Lib.compareBytes (a.drop i) (b.drop i) → i ≤ a.length → i ≤ b.length →
    L_ref00Texts_0 k a b m (x0, ((i : Int), ())) = some (.ret (Lib.compareBytes a b, ()) ()) ∨
    ∃ j : Nat, L_ref00Texts_0 k a b m (x0, ((i : Int), ())) = some (.brk (x0, ((j : Int), ()))) ∧ Lib.compareBytes a b = if a.length < b.length then -1 else if b.length < a.length then 1 else 0 := by
  intro m
  induction m with
  | zero => intro i h; omega
  | succ m ih =>
    intro i hm he hia hib
    rw [L_ref00Texts_0_step]
    by_cases hx : i < a.length ∧ i < b.length
    · have e1 : (cond (decide ((i : Int) < ((a.length : Nat) : Int))) (decide ((i : Int) < ((b.length : Nat) : Int))) false) = true := by simp [hx.1, hx.2]
      have e2 : inB (i : Int) a.length = true := by simp [inB, hx.1]
      have e3 : inB (i : Int) b.length = true := by simp [inB, hx.2]
      rw [e1, e2, e3]
      simp only [br, cond_true, Int.toNat_natCast]
      rw [drop_getD hx.1, drop_getD hx.2] at he
      rw [show Lib.compareBytes (a.getD i 0 :: List.drop (i + 1) a) (b.getD i 0 :: List.drop (i + 1) b) = if a.getD i 0 < b.getD i 0 then -1 else if b.getD i 0 < a.getD i 0 then 1 else Lib.compareBytes (List.drop (i + 1) a) (List.drop (i + 1) b) from rfl] at he
      have gen : ∀ x y : UInt8, (Lib.compareBytes a b = if x < y then -1 else if y < x then 1 else Lib.compareBytes (List.drop (i + 1) a) (List.drop (i + 1) b)) → 
         (cond (((x.toNat : Nat) : Int) != ((y.toNat : Nat) : Int)) (cond (decide (((x.toNat : Nat) : Int) < ((y.toNat : Nat) : Int))) (some (.ret ((-1 : Int), ()) ())) (some (.ret ((1 : Int), ()) ()))) (L_ref00Texts_0 k a b m (x0, ((IntKind.wrap (IntKind.i64) ((i : Int) + (1 : Int))), ()))) = some (.ret (Lib.compareBytes a b, ()) ()) ∨
          ∃ j : Nat, cond (((x.toNat : Nat) : Int) != ((y.toNat : Nat) : Int)) (cond (decide (((x.toNat : Nat) : Int) < ((y.toNat : Nat) : Int))) (some (.ret ((-1 : Int), ()) ())) (some (.ret ((1 : Int), ()) ()))) (L_ref00Texts_0 k a b m (x0, ((IntKind.wrap (IntKind.i64) ((i : Int) + (1 : Int))), ()))) = some (.brk (x0, ((j : Int), ()))) ∧ Lib.compareBytes a b = if a.length < b.length then -1 else if b.length < a.length then 1 else 0) := by
       intro x y he
       by_cases h1 : x = y
       · subst h1
         simp only [UInt8.lt_irrefl, if_false] at he
         simp only [bne_self_eq_false, cond_false]
         rw [mid_succ (by omega)]
         exact ih (i + 1) (by omega) he (by omega) (by omega)
       · have hne : (((x.toNat : Nat) : Int) != ((y.toNat : Nat) : Int)) = true := by
           simp only [bne_iff_ne, ne_eq, Int.natCast_inj]
           intro e; exact h1 (UInt8.toNat_inj.1 e)
         rw [hne]
         simp only [cond_true]
         left
         by_cases h2 : x < y
         · have : decide (((x.toNat : Nat) : Int) < ((y.toNat : Nat) : Int)) = true := by
             have := UInt8.lt_iff_toNat_lt.1 h2
             simp; exact this
           rw [this, he]
           simp [h2]
         · have h3 : y < x := by
             rcases UInt8.lt_or_lt_of_ne h1 with h | h
             · exact (h2 h).elim
             · exact h
           have : decide (((x.toNat : Nat) : Int) < ((y.toNat : Nat) : Int)) = false := by
             have := UInt8.lt_iff_toNat_lt.1 h3
             simp; exact Nat.le_of_lt this
           rw [this, he]
           simp [h2, h3]
      exact gen _ _ he
    · have e1 : (cond (decide ((i : Int) < ((a.length : Nat) : Int))) (decide ((i : Int) < ((b.length : Nat) : Int))) false) = false := by
        by_cases h : i < a.length
        · have : ¬ i < b.length := fun h' => hx ⟨h, h'⟩
          simp [h, this]
        · simp [h]
      rw [e1]
      refine .inr ⟨i, rfl, ?_⟩
      rw [he, cmpB_len]
      · simp only [List.length_drop]
        split <;> split <;> (try split) <;> (try split) <;> first | rfl | omega
      · rcases Nat.lt_or_ge i a.length with h | h
        · right; exact List.drop_eq_nil_of_le (by omega)
        · left; exact List.drop_eq_nil_of_le h

theorem F_ref00Texts_eq (k : Nat) (a b : List UInt8) (ha : a.length ≤ 2 ^ 40) (hk : a.length < k) : F_ref00Texts (k + 1) a b = some ((Lib.compareBytes a b, ()), ()) := by
  rw [F_ref00Texts_step]
  rw [show ((0 : Int), ((0 : Int), ())) = ((0 : Int), (((0 : Nat) : Int), ())) from rfl]
  rcases L_texts_eq k a b 0 ha k 0 (by omega) (by simp) (by omega) (by omega) with h | ⟨j, h, h2⟩
  · rw [h]; rfl
  · rw [h, h2]
    simp only [bdL, br]
    by_cases h3 : a.length < b.length
    · simp [h3]
    · by_cases h4 : b.length < a.length
      · simp [h3, h4]
      · simp [h3, h4]

end Go.Proofs.YtkfikongenapfaaDoor.E

namespace Go.Proofs.YtkfikongenapfaaDoor.E
open Go
set_option linter.unusedSimpArgs false
set_option linter.unusedVariables false
/-! a key between two, plainly -/
def btwY (high : List UInt8) (tight : Bool) (i : Nat) : Nat := if tight = true ∧ i < high.length then (high.getD i 0).toNat else 256

def btwH (x y : Nat) : Nat := if y = 256 then min ((y - x) / 2) 8 else (y - x) / 2

def btw (low high : List UInt8) : Nat → List UInt8 → Bool → Nat → Option (List UInt8)
  | 0, _, _, _ => none
  | m + 1, out, tight, i =>
    if btwY high tight i > (low.getD i 0).toNat + 1 then some (out ++ [UInt8.ofNat ((low.getD i 0).toNat + btwH (low.getD i 0).toNat (btwY high tight i))])
    else btw low high m (out ++ [low.getD i 0]) (tight && !decide (btwY high tight i = (low.getD i 0).toNat + 1)) (i + 1)

theorem cmpB_cons_lt {x y : UInt8} {a b : List UInt8} (h : x.toNat < y.toNat) : Lib.compareBytes (x :: a) (y :: b) < 0 := by
  have : x < y := UInt8.lt_iff_toNat_lt.2 h
  simp [Lib.compareBytes, this]

theorem cmpB_cons {x : UInt8} {a b : List UInt8} : Lib.compareBytes (x :: a) (x :: b) = Lib.compareBytes a b := by
  conv => lhs; unfold Lib.compareBytes
  simp [UInt8.lt_irrefl]

theorem cmpB_app : ∀ {p a b : List UInt8}, Lib.compareBytes (p ++ a) (p ++ b) = Lib.compareBytes a b
  | [], a, b => rfl
  | x :: p, a, b => by rw [List.cons_append, List.cons_append, cmpB_cons, cmpB_app]

theorem btw_low {low high key : List UInt8} : ∀ (m : Nat) (out : List UInt8) (tight : Bool) (i : Nat), (∀ r, Lib.compareBytes (low.drop i) r < 0 → Lib.compareBytes low (out ++ r) < 0) → btw low high m out tight i = some key → Lib.compareBytes low key < 0 := by
  intro m
  induction m with
  | zero => intro out tight i _ h; simp [btw] at h
  | succ m ih =>
    intro out tight i hI h
    unfold btw at h
    have hx := UInt8.toNat_lt (low.getD i 0)
    split at h
    · rename_i hy
      obtain rfl := Option.some.inj h
      apply hI
      have hY : btwY high tight i ≤ 256 := by
        unfold btwY; split
        · have := UInt8.toNat_lt (high.getD i 0); omega
        · omega
      have hH : 1 ≤ btwH (low.getD i 0).toNat (btwY high tight i) ∧ (low.getD i 0).toNat + btwH (low.getD i 0).toNat (btwY high tight i) < 256 := by
        unfold btwH
        split <;> omega
      have hn : (UInt8.ofNat ((low.getD i 0).toNat + btwH (low.getD i 0).toNat (btwY high tight i))).toNat = (low.getD i 0).toNat + btwH (low.getD i 0).toNat (btwY high tight i) := by
        rw [UInt8.toNat_ofNat_of_lt' (by simpa [UInt8.size] using hH.2)]
      rcases Nat.lt_or_ge i low.length with hi | hi
      · rw [drop_getD hi]
        exact cmpB_cons_lt (by rw [hn]; omega)
      · rw [List.drop_eq_nil_of_le hi]; simp [Lib.compareBytes]
    · refine ih _ _ _ (fun r hr => ?_) h
      rw [List.append_assoc]
      apply hI
      rcases Nat.lt_or_ge i low.length with hi | hi
      · rw [drop_getD hi]
        rw [List.singleton_append, cmpB_cons]; exact hr
      · rw [List.drop_eq_nil_of_le hi]; simp [Lib.compareBytes]

end Go.Proofs.YtkfikongenapfaaDoor.E

namespace Go.Proofs.YtkfikongenapfaaDoor.E
open Go
set_option linter.unusedSimpArgs false
set_option linter.unusedVariables false
/-- its last byte is not zero -/
def EndNZ (h : List UInt8) : Prop := h ≠ [] ∧ h.getD (h.length - 1) 0 ≠ 0

theorem btw_high {low high key : List UInt8} (hh : EndNZ high) : ∀ (m : Nat) (out : List UInt8) (tight : Bool) (i : Nat),
    (tight = false → ∀ r, Lib.compareBytes (out ++ r) high < 0) → (tight = true → high = out ++ high.drop i ∧ Lib.compareBytes (low.drop i) (high.drop i) < 0) → btw low high m out tight i = some key → Lib.compareBytes key high < 0 := by
  intro m
  induction m with
  | zero => intro out tight i _ _ h; simp [btw] at h
  | succ m ih =>
    intro out tight i h1 h2 h
    have hx := UInt8.toNat_lt (low.getD i 0)
    unfold btw at h
    cases ht : tight with
    | false =>
      have h1' := h1 ht
      subst ht
      split at h
      · obtain rfl := Option.some.inj h
        exact h1' _
      · refine ih _ _ _ (fun _ r => ?_) (fun e => by simp at e) h
        rw [List.append_assoc]; exact h1' _
    | true =>
      obtain ⟨g1, g2⟩ := h2 ht
      subst ht
      have hi : i < high.length := by
        rcases Nat.lt_or_ge i high.length with h | h
        · exact h
        · rw [List.drop_eq_nil_of_le h] at g2
          exfalso
          cases hq : low.drop i <;> rw [hq] at g2 <;> simp [Lib.compareBytes] at g2
      have hY : btwY high true i = (high.getD i 0).toNat := by simp [btwY, hi]
      have hy := UInt8.toNat_lt (high.getD i 0)
      rw [hY] at h
      rw [drop_getD hi] at g1
      split at h
      · rename_i hgt
        obtain rfl := Option.some.inj h
        have hH : (low.getD i 0).toNat + btwH (low.getD i 0).toNat (high.getD i 0).toNat < (high.getD i 0).toNat := by
          unfold btwH
          split <;> omega
        have hn : (UInt8.ofNat ((low.getD i 0).toNat + btwH (low.getD i 0).toNat (high.getD i 0).toNat)).toNat = (low.getD i 0).toNat + btwH (low.getD i 0).toNat (high.getD i 0).toNat := by
          rw [UInt8.toNat_ofNat_of_lt' (by simp only [UInt8.size]; omega)]
        have e : Lib.compareBytes (out ++ [UInt8.ofNat ((low.getD i 0).toNat + btwH (low.getD i 0).toNat (high.getD i 0).toNat)]) (out ++ high.getD i 0 :: high.drop (i + 1)) < 0 := by
          rw [cmpB_app]; exact cmpB_cons_lt (by rw [hn]; exact hH)
        rw [← g1] at e
        exact e
      · rename_i hgt
        by_cases hs : (high.getD i 0).toNat = (low.getD i 0).toNat + 1
        · rw [decide_eq_true hs] at h
          simp only [Bool.not_true, Bool.and_false] at h
          refine ih _ _ _ (fun _ r => ?_) (fun e => by cases e) h
          have e : Lib.compareBytes (out ++ (low.getD i 0 :: r)) (out ++ high.getD i 0 :: high.drop (i + 1)) < 0 := by
            rw [cmpB_app]; exact cmpB_cons_lt (by omega)
          rw [← g1] at e
          rw [List.append_assoc]; exact e
        · rw [decide_eq_false hs] at h
          simp only [Bool.not_false, Bool.and_true] at h
          refine ih _ _ _ (fun e => by cases e) (fun _ => ?_) h
          -- the same byte
          rw [drop_getD hi] at g2
          rcases Nat.lt_or_ge i low.length with hl | hl
          · rw [drop_getD hl] at g2
            have heq : low.getD i 0 = high.getD i 0 := by
              apply UInt8.toNat_inj.1
              rcases Nat.lt_or_ge (high.getD i 0).toNat (low.getD i 0).toNat with hlt | hge
              · have h3 := cmpB_cons_lt (a := high.drop (i + 1)) (b := low.drop (i + 1)) hlt
                have h4 := cmpB_swap (low.getD i 0 :: low.drop (i + 1)) (high.getD i 0 :: high.drop (i + 1))
                omega
              · omega
            rw [heq, cmpB_cons] at g2
            refine ⟨?_, g2⟩
            rw [List.append_assoc, heq]; exact g1
          · have hz : (low.getD i 0) = 0 := by simp [List.getD_eq_getElem?_getD, List.getElem?_eq_none hl]
            have hz2 : high.getD i 0 = 0 := by
              apply UInt8.toNat_inj.1
              rw [hz] at hgt hs
              simp at hgt hs ⊢
              omega
            refine ⟨?_, ?_⟩
            · rw [List.append_assoc, hz, ← hz2]; exact g1
            · rw [List.drop_eq_nil_of_le (by omega)]
              have hlast : i + 1 < high.length := by
                rcases Nat.lt_or_ge (i + 1) high.length with h | h
                · exact h
                · exfalso
                  apply hh.2
                  rw [show high.length - 1 = i by omega]; exact hz2
              rw [drop_getD hlast]
              simp [Lib.compareBytes]

end Go.Proofs.YtkfikongenapfaaDoor.E

namespace Go.Proofs.YtkfikongenapfaaDoor.E
open Go
set_option linter.unusedSimpArgs false
set_option linter.unusedVariables false
theorem w64 {n : Int} (h0 : -1000 ≤ n) (h : n ≤ 1000) : IntKind.wrap IntKind.i64 n = n := by
  simp [IntKind.wrap, IntKind.bits, IntKind.signed]; omega

theorem w8 {n : Int} (h0 : 0 ≤ n) (h : n < 256) : IntKind.wrap IntKind.u8 n = n := by
  simp [IntKind.wrap, IntKind.bits, IntKind.signed]; omega

def ints (l : List UInt8) : List Int := l.map fun b => ((b.toNat : Nat) : Int)

theorem ints_app (l : List UInt8) (b : UInt8) : ints l ++ [((b.toNat : Nat) : Int)] = ints (l ++ [b]) := by simp [ints]

theorem ints_back (l : List UInt8) : (ints l).map (fun n => UInt8.ofNat (Int.toNat n)) = l := by
  induction l with
  | nil => rfl
  | cons b l ih => simp only [ints, List.map_cons] at ih ⊢; rw [ih]; simp

end Go.Proofs.YtkfikongenapfaaDoor.E

namespace Go.Proofs.YtkfikongenapfaaDoor.E
open Go
set_option linter.unusedSimpArgs false
set_option linter.unusedVariables false
theorem L_btw_eq (k : Nat) (low high : List UInt8) (x0 : List UInt8) (x1 : Int) : ∀ (m i : Nat) (out : List UInt8) (tight : Bool), i ≤ 32 → out.length = i → 32 - i < m →
    (∀ key, btw low high (32 - i) out tight i = some key → L_ref04Between_0 k low high m (x0, (x1, (ints out, (tight, ((i : Int), ()))))) = some (.ret (key, ((0 : Int), ())) ())) ∧
    (btw low high (32 - i) out tight i = none → ∃ b, L_ref04Between_0 k low high m (x0, (x1, (ints out, (tight, ((i : Int), ()))))) = some (.brk b)) := by
  intro m
  induction m with
  | zero => intro i out tight _ _ h; omega
  | succ m ih =>
    intro i out tight hi ho hm
    rw [L_ref04Between_0_step]
    by_cases h32 : i < 32
    case neg =>
      have e0 : decide ((i : Int) < (32 : Int)) = false := by simp; omega
      rw [e0]
      have : 32 - i = 0 := by omega
      rw [this]
      exact ⟨fun key h => by simp [btw] at h, fun _ => ⟨_, rfl⟩⟩
    have e0 : decide ((i : Int) < (32 : Int)) = true := by simp; omega
    rw [e0, show 32 - i = (32 - (i + 1)) + 1 by omega]
    have hlo : (ints out).length = i := by simp [ints, ho]
    have hx := UInt8.toNat_lt (low.getD i 0)
    have hy := UInt8.toNat_lt (high.getD i 0)
    simp only [btw]
    by_cases hl : i < low.length
    · have e1 : decide ((i : Int) < (((List.length low) : Nat) : Int)) = true := by simp [hl]
      have e2 : inB (i : Int) low.length = true := by simp [inB, hl]
      rw [e1, e2]
      by_cases hth : tight = true ∧ i < high.length
      · have e3 : cond tight (decide ((i : Int) < (((List.length high) : Nat) : Int))) false = true := by simp [hth.1, hth.2]
        have e4 : inB (i : Int) high.length = true := by simp [inB, hth.2]
        rw [e3, e4]
        have hY : btwY high tight i = (high.getD i 0).toNat := by simp [btwY, hth.1, hth.2]
        simp only [br, cond_true, Int.toNat_natCast, hY]
        simp (disch := omega) only [w64]
        have en : (((high.getD i 0).toNat : Int) == 256) = false := by
          rw [beq_eq_false_iff_ne]; omega
        have fin : ∀ n : Int, decide (((ints out).length + [n].length) * 1 ≤ 140737488355328) = true := fun n => by
          simp only [hlo, List.length_singleton]; rw [decide_eq_true_iff]; omega
        by_cases hgt : (high.getD i 0).toNat > (low.getD i 0).toNat + 1
        · have e5 : decide (((high.getD i 0).toNat : Int) > ((low.getD i 0).toNat : Int) + 1) = true := by rw [decide_eq_true_iff]; omega
          rw [e5, en, fin, if_pos hgt]
          simp only [cond_true, cond_false]
          rw [fin]
          simp only [cond_true]
          refine ⟨fun key h => ?_, fun h => by cases h⟩
          obtain rfl := Option.some.inj h
          rw [Int.tdiv_eq_ediv_of_nonneg (by omega)]
          simp (disch := omega) only [w64, w8]
          congr 3
          have : btwH (low.getD i 0).toNat (high.getD i 0).toNat = ((high.getD i 0).toNat - (low.getD i 0).toNat) / 2 := by unfold btwH; rw [if_neg (by omega)]
          rw [this, List.map_append, ints_back]
          congr 2
          simp only [List.map_cons, List.map_nil]
          congr 2
          omega
        · have e5 : decide (((high.getD i 0).toNat : Int) > ((low.getD i 0).toNat : Int) + 1) = false := by rw [decide_eq_false_iff_not]; omega
          rw [e5, if_neg hgt]
          simp only [cond_false]
          rw [fin]
          simp (disch := omega) only [w64, w8]
          rw [ints_app, show ((i : Int) + 1) = ((i + 1 : Nat) : Int) from rfl]
          by_cases hs : (high.getD i 0).toNat = (low.getD i 0).toNat + 1
          · have e6 : (((high.getD i 0).toNat : Int) == ((low.getD i 0).toNat : Int) + 1) = true := by rw [beq_iff_eq]; omega
            rw [e6, decide_eq_true hs]
            simp only [cond_true, Bool.not_true, Bool.and_false]
            exact ih (i + 1) _ _ (by omega) (by simp [ho]) (by omega)
          · have e6 : (((high.getD i 0).toNat : Int) == ((low.getD i 0).toNat : Int) + 1) = false := by rw [beq_eq_false_iff_ne]; omega
            rw [e6, decide_eq_false hs]
            simp only [cond_true, cond_false, Bool.not_false, Bool.and_true]
            exact ih (i + 1) _ _ (by omega) (by simp [ho]) (by omega)
      · have e3 : cond tight (decide ((i : Int) < (((List.length high) : Nat) : Int))) false = false := by
          cases tight with
          | false => rfl
          | true =>
            have : ¬ i < high.length := fun h => hth ⟨rfl, h⟩
            simp [this]
        rw [e3]
        have hY : btwY high tight i = 256 := by unfold btwY; rw [if_neg hth]
        simp only [br, cond_true, cond_false, Int.toNat_natCast, hY]
        simp (disch := omega) only [w64]
        have fin : ∀ n : Int, decide (((ints out).length + [n].length) * 1 ≤ 140737488355328) = true := fun n => by
          simp only [hlo, List.length_singleton]; rw [decide_eq_true_iff]; omega
        by_cases hgt : 256 > (low.getD i 0).toNat + 1
        · have e5 : decide ((256 : Int) > ((low.getD i 0).toNat : Int) + 1) = true := by rw [decide_eq_true_iff]; omega
          rw [e5, fin, if_pos hgt]
          simp only [cond_true]
          refine ⟨fun key h => ?_, fun h => by cases h⟩
          obtain rfl := Option.some.inj h
          rw [Int.tdiv_eq_ediv_of_nonneg (by omega)]
          simp (disch := omega) only [w64]
          have hb : (if (8 : Int) < (256 - ((low.getD i 0).toNat : Int)) / 2 then (8 : Int) else (256 - ((low.getD i 0).toNat : Int)) / 2) = ((btwH (low.getD i 0).toNat 256 : Nat) : Int) := by
            unfold btwH; rw [if_pos rfl]; split <;> omega
          have hb2 : (low.getD i 0).toNat + btwH (low.getD i 0).toNat 256 < 256 := by
            unfold btwH; rw [if_pos rfl]; omega
          rw [hb]
          generalize btwH (low.getD i 0).toNat 256 = h' at hb2 ⊢
          simp (disch := omega) only [w64, w8]
          have hm : List.map (fun n => UInt8.ofNat (Int.toNat n)) (ints out ++ [(((low.getD i 0).toNat : Nat) : Int) + (h' : Int)]) = out ++ [UInt8.ofNat ((low.getD i 0).toNat + h')] := by
            rw [List.map_append, ints_back]; rfl
          rw [hm]
        · have e5 : decide ((256 : Int) > ((low.getD i 0).toNat : Int) + 1) = false := by rw [decide_eq_false_iff_not]; omega
          rw [e5, if_neg hgt]
          simp only [cond_false]
          rw [fin]
          simp (disch := omega) only [w64, w8]
          rw [ints_app]
          rw [show ((i : Int) + 1) = ((i + 1 : Nat) : Int) from rfl]
          have hs : 256 = (low.getD i 0).toNat + 1 := by omega
          have e6 : ((256 : Int) == ((low.getD i 0).toNat : Int) + 1) = true := by simp only [beq_iff_eq]; omega
          have hd : (tight && !decide (256 = (low.getD i 0).toNat + 1)) = false := by
            rw [← hs]; simp
          rw [e6, hd]
          simp only [cond_true]
          exact ih (i + 1) _ _ (by omega) (by simp [ho]) (by omega)
    · have e1 : decide ((i : Int) < (((List.length low) : Nat) : Int)) = false := by simp; omega
      rw [e1]
      have hz : low.getD i 0 = 0 := by simp [List.getD_eq_getElem?_getD, List.getElem?_eq_none (Nat.le_of_not_lt hl)]
      have hz2 : (low.getD i 0).toNat = 0 := by rw [hz]; rfl
      have hap : ints out ++ [(0 : Int)] = ints (out ++ [low.getD i 0]) := by rw [hz]; simp [ints]
      have fin : decide (((ints out).length + 1) * 1 ≤ 140737488355328) = true := by
        simp only [hlo]; rw [decide_eq_true_iff]; omega
      by_cases hth : tight = true ∧ i < high.length
      · have e3 : cond tight (decide ((i : Int) < (((List.length high) : Nat) : Int))) false = true := by simp [hth.1, hth.2]
        have e4 : inB (i : Int) high.length = true := by simp [inB, hth.2]
        rw [e3, e4]
        have hY : btwY high tight i = (high.getD i 0).toNat := by simp [btwY, hth.1, hth.2]
        simp only [br, cond_true, cond_false, Int.toNat_natCast, hY]
        simp (disch := omega) only [w64]
        have en : (((high.getD i 0).toNat : Int) == 256) = false := by
          rw [beq_eq_false_iff_ne]; omega
        by_cases hgt : (high.getD i 0).toNat > (low.getD i 0).toNat + 1
        · have e5 : decide (((high.getD i 0).toNat : Int) > 1) = true := by rw [decide_eq_true_iff]; omega
          rw [e5, en, if_pos hgt]
          simp only [cond_true, cond_false, List.length_singleton]
          rw [fin]
          simp only [cond_true]
          refine ⟨fun key h => ?_, fun h => by cases h⟩
          obtain rfl := Option.some.inj h
          rw [Int.tdiv_eq_ediv_of_nonneg (by omega)]
          simp (disch := omega) only [w64, w8]
          have hH : btwH (low.getD i 0).toNat (high.getD i 0).toNat = ((high.getD i 0).toNat - (low.getD i 0).toNat) / 2 := by unfold btwH; rw [if_neg (by omega)]
          have hm : List.map (fun n => UInt8.ofNat (Int.toNat n)) (ints out ++ [0 + (((high.getD i 0).toNat : Int) - 0) / 2]) = out ++ [UInt8.ofNat ((low.getD i 0).toNat + btwH (low.getD i 0).toNat (high.getD i 0).toNat)] := by
            rw [List.map_append, ints_back, hH]
            simp only [List.map_cons, List.map_nil]
            congr 3
            omega
          rw [hm]
        · have e5 : decide (((high.getD i 0).toNat : Int) > 1) = false := by rw [decide_eq_false_iff_not]; omega
          rw [e5, if_neg hgt]
          simp only [cond_false]
          rw [fin, hap]
          rw [show ((i : Int) + 1) = ((i + 1 : Nat) : Int) from rfl]
          by_cases hs : (high.getD i 0).toNat = (low.getD i 0).toNat + 1
          · have e6 : (((high.getD i 0).toNat : Int) == 1) = true := by rw [beq_iff_eq]; omega
            rw [e6, decide_eq_true hs]
            simp only [cond_true, Bool.not_true, Bool.and_false]
            exact ih (i + 1) _ _ (by omega) (by simp [ho]) (by omega)
          · have e6 : (((high.getD i 0).toNat : Int) == 1) = false := by rw [beq_eq_false_iff_ne]; omega
            rw [e6, decide_eq_false hs]
            simp only [cond_true, cond_false, Bool.not_false, Bool.and_true]
            exact ih (i + 1) _ _ (by omega) (by simp [ho]) (by omega)
      · have e3 : cond tight (decide ((i : Int) < (((List.length high) : Nat) : Int))) false = false := by
          cases tight with
          | false => rfl
          | true =>
            have : ¬ i < high.length := fun h => hth ⟨rfl, h⟩
            simp [this]
        rw [e3]
        have hY : btwY high tight i = 256 := by unfold btwY; rw [if_neg hth]
        rw [hY, if_pos (by omega)]
        simp only [br, cond_true, cond_false]
        rw [fin]
        simp only [cond_true]
        refine ⟨fun key h => ?_, fun h => by cases h⟩
        obtain rfl := Option.some.inj h
        have hm : List.map (fun n => UInt8.ofNat (Int.toNat n)) (ints out ++ [(8 : Int)]) = out ++ [UInt8.ofNat ((low.getD i 0).toNat + btwH (low.getD i 0).toNat 256)] := by
          rw [List.map_append, ints_back, hz2]; rfl
        rw [hm]

end Go.Proofs.YtkfikongenapfaaDoor.E

namespace Go.Proofs.YtkfikongenapfaaDoor.E
open Go
set_option linter.unusedSimpArgs false
set_option linter.unusedVariables false
theorem btw_tail (k : Nat) (hk : 40 ≤ k) (low high : List UInt8) : ∃ key f, 
    (bdL (L_ref04Between_0 k low high k (([] : List UInt8), ((0 : Int), (([] : List (Int)), ((!(high == ([] : List UInt8))), ((0 : Int), ()))))))
      (fun (b : (List (UInt8)) × ((Int) × ((List (Int)) × ((Bool) × ((Int) × (Unit)))))) => (some ((([] : List UInt8), ((15 : Int), ())), ())))
      (fun (j : Nat) => (fun (b : (List (UInt8)) × ((Int) × ((List (Int)) × ((Bool) × ((Int) × (Unit)))))) => none))
      (fun (q : (List (UInt8)) × ((Int) × (Unit))) => (fun (b : Unit) => (some (q, ()))))) = some ((key, (f, ())), ()) ∧ (f = 0 → btw low high 32 [] (!(high == ([] : List UInt8))) 0 = some key) := by
  obtain ⟨h1, h2⟩ := L_btw_eq k low high [] 0 k 0 [] (!(high == ([] : List UInt8))) (by omega) rfl (by omega)
  rw [show 32 - 0 = 32 from rfl] at h1 h2
  cases hb : btw low high 32 [] (!(high == ([] : List UInt8))) 0 with
  | some key =>
    have := h1 key hb
    refine ⟨key, 0, ?_, fun _ => rfl⟩
    change bdL (L_ref04Between_0 k low high k (([] : List UInt8), ((0 : Int), (ints [], ((!(high == ([] : List UInt8))), (((0 : Nat) : Int), ())))))) _ _ _ = _
    rw [this]; rfl
  | none =>
    obtain ⟨b, this⟩ := h2 hb
    refine ⟨[], 15, ?_, fun h => by omega⟩
    change bdL (L_ref04Between_0 k low high k (([] : List UInt8), ((0 : Int), (ints [], ((!(high == ([] : List UInt8))), (((0 : Nat) : Int), ())))))) _ _ _ = _
    rw [this]; rfl

end Go.Proofs.YtkfikongenapfaaDoor.E

namespace Go.Proofs.YtkfikongenapfaaDoor.E
open Go
set_option linter.unusedSimpArgs false
set_option linter.unusedVariables false
theorem rightKey_endNZ {h : List UInt8} (hr : rightKey h = true) : EndNZ h ∧ h.length ≤ 32 := by
  simp only [rightKey, Bool.and_eq_true, Bool.not_eq_true', beq_eq_false_iff_ne, decide_eq_true_eq] at hr
  refine ⟨⟨by simpa using hr.1.1, fun e => hr.2 ?_⟩, hr.1.2⟩
  rw [e]; rfl

theorem btw_spec {low high key : List UInt8} (h : btw low high 32 [] (!(high == ([] : List UInt8))) 0 = some key) (hh : high ≠ [] → rightKey high = true ∧ Lib.compareBytes low high < 0) :
    Lib.compareBytes low key < 0 ∧ (high ≠ [] → Lib.compareBytes key high < 0) := by
  refine ⟨btw_low 32 [] _ 0 (fun r hr => by simpa using hr) h, fun hn => ?_⟩
  obtain ⟨h1, h2⟩ := hh hn
  have ht : (!(high == ([] : List UInt8))) = true := by simp [hn]
  rw [ht] at h
  exact btw_high (rightKey_endNZ h1).1 32 [] true 0 (fun e => by cases e) (fun _ => ⟨by simp, by simpa using h2⟩) h

theorem btw_ok (k : Nat) (hk : 40 ≤ k) : BtwOk (k + 2) := by
  intro low high
  rw [F_ref04Between_step]
  rw [F_ref04Right_eq, F_ref04Right_eq]
  obtain ⟨key, f, hT, hTb⟩ := btw_tail (k + 1) (by omega) low high
  have sp : f = 0 → (high ≠ [] → rightKey high = true ∧ Lib.compareBytes low high < 0) → Lib.compareBytes low key < 0 ∧ (high ≠ [] → Lib.compareBytes key high < 0) := fun e h => btw_spec (hTb e) h
  rw [hT]
  have tf : ∀ {Q : Prop}, (15 : Int) = 0 → Q := fun h => by omega
  by_cases h0 : low = []
  · have e0 : (!(low == ([] : List UInt8))) = false := by simp [h0]
    rw [e0]
    by_cases h1 : high = []
    · have e1 : (!(high == ([] : List UInt8))) = false := by simp [h1]
      rw [e1]
      simp only [br, cond_false, cond_true]
      exact ⟨key, f, rfl, fun e => sp e (fun h => (h h1).elim)⟩
    · have e1 : (!(high == ([] : List UInt8))) = true := by simp [h1]
      rw [e1]
      simp only [br, bd_s, cond_false, cond_true]
      cases hr : rightKey high with
      | false => exact ⟨[], 15, rfl, fun e => tf e⟩
      | true =>
        refine ⟨key, f, rfl, fun e => sp e (fun h => ⟨hr, ?_⟩)⟩
        rw [h0]
        cases high with
        | nil => exact (h rfl).elim
        | cons a l => simp [Lib.compareBytes]
  · have e0 : (!(low == ([] : List UInt8))) = true := by simp [h0]
    rw [e0]
    simp only [br, bd_s, cond_false, cond_true]
    cases hr0 : rightKey low with
    | false => exact ⟨[], 15, rfl, fun e => tf e⟩
    | true =>
    simp only [Bool.not_true, cond_false]
    by_cases h1 : high = []
    · have e1 : (!(high == ([] : List UInt8))) = false := by simp [h1]
      rw [e1]
      simp only [cond_false]
      exact ⟨key, f, rfl, fun e => sp e (fun h => (h h1).elim)⟩
    · have e1 : (!(high == ([] : List UInt8))) = true := by simp [h1]
      rw [e1]
      simp only [cond_true]
      cases hr : rightKey high with
      | false => exact ⟨[], 15, rfl, fun e => tf e⟩
      | true =>
        simp only [Bool.not_true, cond_false]
        have hl := (rightKey_endNZ hr0).2
        rw [F_ref00Texts_eq k low high (by omega) (by omega)]
        simp only [bd_s]
        by_cases hc : Lib.compareBytes low high < 0
        · have : decide (Lib.compareBytes low high ≥ (0 : Int)) = false := by rw [decide_eq_false_iff_not]; omega
          rw [this]
          exact ⟨key, f, rfl, fun e => sp e (fun h => ⟨hr, hc⟩)⟩
        · have : decide (Lib.compareBytes low high ≥ (0 : Int)) = true := by rw [decide_eq_true_iff]; omega
          rw [this]
          exact ⟨[], 15, rfl, fun e => tf e⟩

end Go.Proofs.YtkfikongenapfaaDoor.E

namespace Go.Proofs.YtkfikongenapfaaDoor.E
open Go Go.Proofs
set_option linter.unusedSimpArgs false
set_option linter.unusedVariables false
def kidsA : TKids := ([((0, 1, ()), ((0, 0, ()), [98], ()))], ([((0, 0, ()), [([98], (0, 1, ()), ())])], ()))

def kidsB : TKids := ([((0, 1, ()), ((0, 0, ()), [98], ())), ((0, 2, ()), ((0, 0, ()), [97], ()))], ([((0, 0, ()), [([97], (0, 2, ()), ()), ([98], (0, 1, ()), ())])], ()))

theorem al1 (k : Nat) : F_kidsKidsSet (k + 30) ([], ([], ())) (0, 1, ()) ((0, 0, ()), [98], ()) = some (((0 : Int), ()), (kidsA, ())) := by
  rw [F_kidsKidsSet_step (k + 29)]; kernel_rfl

theorem alA : kidsOf kidsA (0, 0, ()) = [([98], (0, 1, ()), ())] := rfl

theorem alB : kidsOf kidsB (0, 0, ()) = [([97], (0, 2, ()), ()), ([98], (0, 1, ()), ())] := rfl

theorem alo1 : ordC ([98], (0, 1, ()), ()) ([97], (0, 2, ()), ()) = 1 := by kernel_rfl

theorem alo2 : ordC ([97], (0, 2, ()), ()) ([98], (0, 1, ()), ()) = -1 := by kernel_rfl

theorem alo3 : ordC ([97], (0, 2, ()), ()) ([97], (0, 2, ()), ()) = 0 := by kernel_rfl

theorem alfA (k : Nat) : F_kidsKidsfind (k + 29) kidsA (0, 2, ()) ((0, 0, ()), [97], ()) = some ((0, (false, ())), ()) := by
  obtain ⟨i, h1, h2, h3, h4⟩ := F_kidsKidsfind_eq (k + 22) kidsA (0, 2, ()) ((0, 0, ()), [97], ()) (by rw [show ((((0 : Int), (0 : Int), ()), [97], ()) : TPlace).1 = (0, 0, ()) from rfl, alA]; simp [Sorted]) (by rw [show ((((0 : Int), (0 : Int), ()), [97], ()) : TPlace).1 = (0, 0, ()) from rfl, alA]; decide) (by rw [show ((((0 : Int), (0 : Int), ()), [97], ()) : TPlace).1 = (0, 0, ()) from rfl, alA]; simp)
  simp only [alA] at h1 h2 h3 h4
  rw [h2]
  have hi : i = 0 := by
    rcases Nat.eq_zero_or_pos i with h | h
    · exact h
    · have := h3 0 h
      simp only [List.getD_cons_zero, alo1] at this
      omega
  subst hi
  rfl

theorem alfB (k : Nat) : F_kidsKidsfind (k + 27) kidsB (0, 2, ()) ((0, 0, ()), [97], ()) = some ((0, (true, ())), ()) := by
  obtain ⟨i, h1, h2, h3, h4⟩ := F_kidsKidsfind_eq (k + 20) kidsB (0, 2, ()) ((0, 0, ()), [97], ()) (by rw [show ((((0 : Int), (0 : Int), ()), [97], ()) : TPlace).1 = (0, 0, ()) from rfl, alB]; simp [Sorted, alo2]) (by rw [show ((((0 : Int), (0 : Int), ()), [97], ()) : TPlace).1 = (0, 0, ()) from rfl, alB]; decide) (by rw [show ((((0 : Int), (0 : Int), ()), [97], ()) : TPlace).1 = (0, 0, ()) from rfl, alB]; simp)
  simp only [alB] at h1 h2 h3 h4
  rw [h2]
  have hi : i = 0 := by
    rcases Nat.eq_zero_or_pos i with h | h
    · exact h
    · have := h3 0 h
      simp only [List.getD_cons_zero, alo3] at this
      omega
  subst hi
  rfl

theorem al2 (k : Nat) : F_kidsKidsSet (k + 30) kidsA (0, 2, ()) ((0, 0, ()), [97], ()) = some (((0 : Int), ()), (kidsB, ())) := by
  rw [F_kidsKidsSet_step (k + 29)]
  have hd : F_kidsKidsDrop (k + 29) kidsA (0, 2, ()) = some ((false, ()), (kidsA, ())) := by kernel_rfl
  have h0 : F_stampRightOp (k + 29) (0, 2, ()) = some ((true, ()), ()) := by kernel_rfl
  have h1 : F_stampRightBlock (k + 29) (0, 0, ()) = some ((true, ()), ()) := by kernel_rfl
  have h2 : F_fracRight (k + 29) [97] = some ((true, ()), ()) := by kernel_rfl
  have h3 : F_slicesInsertkidschild (k + 29) [([98], (0, 1, ()), ())] 0 [([97], (0, 2, ()), ())] = some (([([97], (0, 2, ()), ()), ([98], (0, 1, ()), ())], ()), ()) := by kernel_rfl
  rw [h0]
  simp only [bd_s, h1, h2, hd, alfA, Bool.not_true, cond_false, br, cond_true]
  rw [show (mfind (denEq ((Ty.int IntKind.i64).pair ((Ty.int IntKind.i64).pair Ty.unit))) kidsA.2.1 ((0 : Int), (0 : Int), ())).getD [] = [([98], (0, 1, ()), ())] from rfl, h3]
  rfl

theorem al3 (k : Nat) : F_kidsKidsList (k + 30) kidsB (0, 0, ()) = some (([(0, 2, ()), (0, 1, ())], ()), ()) := by kernel_rfl

theorem al4 (k : Nat) : F_kidsKidsGap (k + 30) kidsB (0, 0, ()) (0, 2, ()) = some (([97], [98], 0, ()), ()) := by kernel_rfl

theorem al5 (k : Nat) : F_kidsKidsBehind (k + 30) kidsB (0, 2, ()) = some (((0, 1, ()), true, ()), ()) := by
  have h : F_kidsKidsIndex (k + 28) kidsB (0, 2, ()) = some ((0, (true, ())), ()) := by
    rw [F_kidsKidsIndex_step (k + 27)]
    have e : (mfind (denEq (.pair (.int .i64) (.pair (.int .i64) .unit))) kidsB.1 ((0, 2, ()) : TId)) = some (((0, 0, ()), [97], ()) : TPlace) := by kernel_rfl
    rw [e]
    simp only [Option.isSome_some, Bool.not_true, br, cond_false, Option.getD_some]
    rw [alfB]; rfl
  rw [F_kidsKidsBehind_step (k + 29), F_kidsKidsnear_step (k + 28), h]; rfl

end Go.Proofs.YtkfikongenapfaaDoor.E

namespace Go.Proofs.YtkfikongenapfaaDoor.E
open Go Go.Proofs
set_option linter.unusedSimpArgs false
set_option linter.unusedVariables false
abbrev TWalk := TKids × (List (TId × Int)) × (List TId) × Unit

theorem below_leaf (k : Nat) (w : TWalk) (id : TId) (h : mfind (denEq (.pair (.int .i64) (.pair (.int .i64) .unit))) w.1.2.1 id = none) :
    F_kidswalkerbelow (k + 2) w id = some ((), ((w.1, (mput (denEq (.pair (.int .i64) (.pair (.int .i64) .unit))) w.2.1 id (1 : Int), w.2.2)), ())) := by
  rw [F_kidswalkerbelow_step (k + 1), h]
  rw [show ∀ x, L_kidswalkerbelow_0 (k + 1) () (Option.getD none ([] : List TChild)) ((((Option.getD none ([] : List TChild)).length : Nat)) : Int) (k + 1) x = L_kidswalkerbelow_0 (k + 1) () [] 0 (k + 1) x from fun _ => rfl]
  rw [L_kidswalkerbelow_0_step (k + 1) k]
  have d5 : decide ((0 : Int) < 0) = false := rfl
  simp only [d5, br, cond_false, bdL]

theorem below_round (k m : Nat) (s1 : List TChild) (s2 x0 : Int) (w : TWalk) (c : TChild) (w' : TWalk) (h1 : decide (x0 < s2) = true) (h2 : inB x0 s1.length = true) (h3 : List.getD s1 x0.toNat ([], (0, 0, ()), ()) = c)
    (h4 : mfind (denEq (.pair (.int .i64) (.pair (.int .i64) .unit))) w.2.1 c.2.1 = none) (h5 : (w.2.2.1.length + 1) * 16 ≤ 140737488355328)
    (h6 : F_kidswalkerbelow k (w.1, (w.2.1, ((w.2.2.1 ++ (c.2.1 :: ([] : List TId))), w.2.2.2))) c.2.1 = some ((), (w', ()))) :
    L_kidswalkerbelow_0 k () s1 s2 (m + 1) (x0, w, ()) = L_kidswalkerbelow_0 k () s1 s2 m (IntKind.wrap IntKind.i64 (x0 + 1), w', ()) := by
  rw [L_kidswalkerbelow_0_step, h1, h2, h3, h4, h6]
  simp only [br, cond_true, bd_s, Option.getD_none, beq_self_eq_true, List.length_singleton, h5, decide_true]

def wk0 : TWalk := (kidsB, [((0, 0, ()), 1)], [], ())

def wk1 : TWalk := (kidsB, [((0, 0, ()), 1), ((0, 2, ()), 1)], [(0, 2, ())], ())

def wk2 : TWalk := (kidsB, [((0, 0, ()), 1), ((0, 2, ()), 1), ((0, 1, ()), 1)], [(0, 2, ()), (0, 1, ())], ())

theorem wkA (k : Nat) : F_kidswalkerbelow (k + 28) (kidsB, [((0, 0, ()), 1)], [(0, 2, ())], ()) (0, 2, ()) = some ((), (wk1, ())) := by
  rw [below_leaf (k + 26) _ _ (by kernel_rfl)]; rfl

theorem wkB (k : Nat) : F_kidswalkerbelow (k + 28) (kidsB, [((0, 0, ()), 1), ((0, 2, ()), 1)], [(0, 2, ()), (0, 1, ())], ()) (0, 1, ()) = some ((), (wk2, ())) := by
  rw [below_leaf (k + 26) _ _ (by kernel_rfl)]; rfl

theorem al6 (k : Nat) : F_kidsKidsWalk (k + 30) kidsB (0, 0, ()) = some (([(0, 2, ()), (0, 1, ())], ()), ()) := by
  rw [F_kidsKidsWalk_step (k + 29), F_kidswalkerbelow_step (k + 28)]
  have e : (mfind (denEq (.pair (.int .i64) (.pair (.int .i64) .unit))) ((kidsB, (([] : List (TId × Int)), (([] : List TId), ()))) : TWalk).1.2.1 ((0, 0, ()) : TId)) = some [([97], (0, 2, ()), ()), ([98], (0, 1, ()), ())] := by kernel_rfl
  rw [e]
  have e2 : (((Option.getD (some [([97], (0, 2, ()), ()), ([98], (0, 1, ()), ())]) ([] : List TChild)).length : Nat) : Int) = 2 := rfl
  rw [e2, Option.getD_some]
  have g1 := below_round (k + 28) (k + 27) [([97], (0, 2, ()), ()), ([98], (0, 1, ()), ())] 2 0 wk0 ([97], (0, 2, ()), ()) wk1 (by kernel_rfl) (by kernel_rfl) (by kernel_rfl) (by kernel_rfl) (by decide) (wkA k)
  have g2 := below_round (k + 28) (k + 26) [([97], (0, 2, ()), ()), ([98], (0, 1, ()), ())] 2 1 wk1 ([98], (0, 1, ()), ()) wk2 (by kernel_rfl) (by kernel_rfl) (by kernel_rfl) (by kernel_rfl) (by decide) (wkB k)
  have g3 : L_kidswalkerbelow_0 (k + 28) () [([97], (0, 2, ()), ()), ([98], (0, 1, ()), ())] 2 (k + 26) (2, wk2, ()) = some (.brk (2, (wk2, ()))) := by
    rw [L_kidswalkerbelow_0_step (k + 28) (k + 25)]
    have d5 : decide ((2 : Int) < 2) = false := rfl
    rw [d5]; rfl
  rw [show IntKind.wrap IntKind.i64 ((0 : Int) + 1) = 1 from rfl] at g1
  rw [show IntKind.wrap IntKind.i64 ((1 : Int) + 1) = 2 from rfl] at g2
  have g : L_kidswalkerbelow_0 (k + 28) () [([97], (0, 2, ()), ()), ([98], (0, 1, ()), ())] 2 (k + 28) (0, wk0, ()) = some (.brk (2, (wk2, ()))) := (g1.trans g2).trans g3
  change bd (bdL (L_kidswalkerbelow_0 (k + 28) () [([97], (0, 2, ()), ()), ([98], (0, 1, ()), ())] 2 (k + 28) (0, wk0, ())) _ _ _) _ = _
  rw [g]
  rfl

theorem alive_ok (k : Nat) : F_law14alive (k + 31) = some ((true, ()), ()) := by
  rw [F_law14alive_step (k + 30)]
  rw [F_kidsNew_step (k + 29)]
  simp only [bd_s, al1, al2, al3, al4, al5, al6]
  rfl

theorem KidsNew_true (k : Nat) (a0 : List TCall) (a1 a2 : TId) : F_law14KidsNew (k + 213) a0 a1 a2 = some ((true, ()), ()) :=
  KidsNew_core (k + 200) (by omega) (alive_ok (k + 181)) (btw_ok (k + 210) (by omega)) a0 a1 a2

end Go.Proofs.YtkfikongenapfaaDoor.E

namespace Go.Proofs.YtkfikongenapfaaDoor.E
open Go Go.Proofs Go.Shelf Go.RowKit Go.Lib
set_option linter.unusedSimpArgs false
set_option linter.unusedVariables false
theorem elT84 : ElT Tryd.prog 84 87 3 32 where
  und := Tryd.underlying84
  info := ⟨Tryd.t87, _, by kernel_rfl, rfl, by kernel_rfl, by kernel_rfl, by kernel_rfl, by kernel_rfl⟩
  pos := by decide
  bpos := by decide

/-! slices.Insert at []kids.child: the walks; what the operations come to is told beside -/
section
set_option maxHeartbeats 4000000
set_option maxRecDepth 100000
theorem ins47_none (a : Option Addr) (n c i : Nat) (va : Option Addr) (vc : Nat) (w : World) (hi : i ≤ n) (hn : n ≤ c) (hc : n ≤ 140737488355328) :
    Calls Tryd.prog 47 #[.slice a n c, .int .i64 i, .slice va 0 vc] w fun e w' => e = .returned (.slice a n c) ∧ w' = w := by
  have h0 : (0 : Int) ≤ (i : Int) := by omega
  have h1 : (i : Int) ≤ (n : Int) := by omega
  go_enter Tryd.func47, Tryd.ntmps47
  go_wp2
  all_goals (go_ret; exact ⟨rfl, rfl⟩)

theorem ins47_end (a : Option Addr) (n c m : Nat) (vb vo vc : Nat) (w W : World) (r : Value) (hm : 0 < m) (hn : n ≤ c) (hc : n + m ≤ 140737488355328)
    (hrun : ∀ ty, (Builtin.append_ #[84, 84] ty #[.slice a n c, .slice (some ⟨vb, vo, none⟩) m vc]).run Tryd.prog w = .ok r W) :
    Calls Tryd.prog 47 #[.slice a n c, .int .i64 n, .slice (some ⟨vb, vo, none⟩) m vc] w fun e w' => e = .returned r ∧ w' = W := by
  have hz1 : ¬ ((m : Int) = 0) := by omega
  go_enter Tryd.func47, Tryd.ntmps47
  cases a with
  | none =>
    go_wp2_with (at_builtin; refine Lib.wpList_append_run _ rfl _ _ _ _ rfl _ _ rfl rfl _ _ (hrun _) ?_)
    all_goals (go_ret; exact ⟨rfl, rfl⟩)
  | some a =>
    obtain ⟨ab, ao, asp⟩ := a
    go_wp2_with (at_builtin; refine Lib.wpList_append_run _ rfl _ _ _ _ rfl _ _ rfl rfl _ _ (hrun _) ?_)
    all_goals (go_ret; exact ⟨rfl, rfl⟩)

theorem ins47_shift (b off n c i vb vo m vc : Nat) (w W1 W2 : World) (hi : i < n) (hm : 0 < m) (hroom : n + m ≤ c) (hc : n + m ≤ 140737488355328)
    (hov : ∀ lb cb, (callFunc 84 #[.slice (some ⟨vb, vo, none⟩) m vc, .slice (some ⟨b, off + (i + m) * 3, none⟩) lb cb]).run Tryd.prog w = .ok (.value (.bool false)) w)
    (hcp1 : ∀ ty dc sc, (Builtin.copy_ #[84, 84] ty #[.slice (some ⟨b, off + (i + m) * 3, none⟩) (n + m - (i + m)) dc, .slice (some ⟨b, off + i * 3, none⟩) (n + m - i) sc]).run Tryd.prog w.drew = .ok (goInt ((n - i : Nat) : Int)) W1)
    (hcp2 : ∀ ty dc, (Builtin.copy_ #[84, 84] ty #[.slice (some ⟨b, off + i * 3, none⟩) (n + m - i) dc, .slice (some ⟨vb, vo, none⟩) m vc]).run Tryd.prog W1 = .ok (goInt (m : Int)) W2) :
    Calls Tryd.prog 47 #[.slice (some ⟨b, off, none⟩) n c, .int .i64 i, .slice (some ⟨vb, vo, none⟩) m vc] w fun e w' => e = .returned (.slice (some ⟨b, off, none⟩) (n + m) c) ∧ w' = W2 := by
  have hz1 : ¬ ((m : Int) = 0) := by omega
  have hz2 : ¬ ((i : Int) = (n : Int)) := by omega
  have hw1 : IntKind.i64.wrap ((i : Int) + (m : Int)) = (i : Int) + (m : Int) := by rw [IntKind.wrap_i64]; omega
  have hb1 : (0 : Int) ≤ (i : Int) + (m : Int) := by omega
  have hin : i ≤ n := by omega
  have htn : ((i : Int) + (m : Int)).toNat = i + m := by omega
  have hb2 : ¬ (c = i + m) := by omega
  have hb3 : (i : Int) ≤ (n : Int) + (m : Int) := by omega
  have hb4 : ¬ (c = i) := by omega
  have mixed : Tryd.prog.follows .mixedOrders = true := by kernel_rfl
  go_enter Tryd.func47, Tryd.ntmps47
  go_wp2_with (simp only [hov])
  go_region_law_o (refine step_copy_R rfl _ _ 84 84 rfl _ _ (by simp [Act.eval, Act.put]) (by simp [Act.eval, Act.put]) (hcp1 _ _ _) ?_)
  go_wp2_with (at_builtin; refine wpList_copy_R _ rfl _ _ 84 84 rfl _ _ rfl rfl (hcp2 _ _) ?_)
  go_ret
  exact ⟨rfl, rfl⟩

theorem ins47_grow (b off n c i vb vo m vc B G : Nat) (w W1 W2 W3 : World) (hi : i < n) (hm : 0 < m) (hn : n ≤ c) (hroom : c < n + m) (hc : n + m ≤ 140737488355328) (hnm : n + m ≤ G) (hG : G ≤ 9223372036854775807)
    (hz : ∀ ty, (Builtin.append_ #[84, 3] ty #[.slice (some ⟨b, off, none⟩) i c, .int .i64 ((n : Int) + (m : Int) - (i : Int))]).run Tryd.prog w = .ok (.slice (some ⟨B, 0, none⟩) (n + m) G) W1)
    (hcpA : ∀ ty dc, (Builtin.copy_ #[84, 84] ty #[.slice (some ⟨B, i * 3, none⟩) (n + m - i) dc, .slice (some ⟨vb, vo, none⟩) m vc]).run Tryd.prog W1 = .ok (goInt (m : Int)) W2)
    (hcpB : ∀ ty dc sc, (Builtin.copy_ #[84, 84] ty #[.slice (some ⟨B, (i + m) * 3, none⟩) (n + m - (i + m)) dc, .slice (some ⟨b, off + i * 3, none⟩) (n - i) sc]).run Tryd.prog W2.drew = .ok (goInt ((n - i : Nat) : Int)) W3) :
    Calls Tryd.prog 47 #[.slice (some ⟨b, off, none⟩) n c, .int .i64 i, .slice (some ⟨vb, vo, none⟩) m vc] w fun e w' => e = .returned (.slice (some ⟨B, 0, none⟩) (n + m) G) ∧ w' = W3 := by
  have hz1 : ¬ ((m : Int) = 0) := by omega
  have hz2 : ¬ ((i : Int) = (n : Int)) := by omega
  have hz3 : (c : Int) < (n : Int) + (m : Int) := by omega
  have hGi : ¬ (G = i) := by omega
  have hGim : ¬ (G = i + m) := by omega
  have hci : ¬ (c = i) := by omega
  have hw1 : IntKind.i64.wrap ((i : Int) + (m : Int)) = (i : Int) + (m : Int) := by rw [IntKind.wrap_i64]; omega
  have hb1 : (0 : Int) ≤ (i : Int) + (m : Int) := by omega
  have hin : i ≤ n := by omega
  have htn : ((i : Int) + (m : Int)).toNat = i + m := by omega
  have hb3 : (i : Int) ≤ (n : Int) := by omega
  have mixed : Tryd.prog.follows .mixedOrders = true := by kernel_rfl
  go_enter Tryd.func47, Tryd.ntmps47
  go_wp2_with (first
    | (at_builtin; refine Lib.wpList_append_run _ rfl _ _ _ _ rfl _ _ rfl rfl _ _ (hz _) ?_)
    | (at_builtin; refine wpList_copy_R _ rfl _ _ 84 84 rfl _ _ rfl rfl (hcpA _ _) ?_))
  go_region_law_o (refine step_copy_R rfl _ _ 84 84 rfl (.slice (some ⟨B, (i + m) * 3, none⟩) (n + m - (i + m)) (G - (i + m))) (.slice (some ⟨b, off + i * 3, none⟩) (n - i) (c - i)) (by simp [Act.eval, Act.put]) (by simp [Act.eval, Act.put]) (hcpB 3 (G - (i + m)) (c - i)) ?_)
  go_wp2
  go_ret
  exact ⟨rfl, rfl⟩

end
theorem insW47 : InsW Tryd.prog 47 84 84 3 3 :=
  ⟨ins47_none, ins47_end, ins47_shift, ins47_grow, fun w a b la ca lb cb hne tA tB kA kB hsa hsb hkB hfa hfe => by
    rw [run_callFunc_extern Tryd.func84 (by kernel_rfl) (by kernel_rfl) (by kernel_rfl) (e := Extern.SlicesOverlaps.overlaps #[84, 84] #[4]) (by kernel_rfl),
      Lib.run_overlaps_apart w 84 4 87 Tryd.underlying84 3 elT84.size a b la ca lb cb hne tA tB kA kB hsa hsb hkB hfa hfe]
    rfl⟩

/-! slices.Delete at []kids.child: the walks -/
section
set_option maxHeartbeats 4000000
set_option maxRecDepth 100000
theorem del48_none (b off n c i : Nat) (w : World) (hi : i ≤ n) (hn : n ≤ c) (hc : n ≤ 140737488355328) :
    Calls Tryd.prog 48 #[.slice (some ⟨b, off, none⟩) n c, .int .i64 i, .int .i64 i] w fun e w' => e = .returned (.slice (some ⟨b, off, none⟩) n c) ∧ w' = w := by
  have h0 : (0 : Int) ≤ (i : Int) := by omega
  have h1 : (i : Int) ≤ (n : Int) := by omega
  go_enter Tryd.func48, Tryd.ntmps48
  go_wp2
  all_goals (go_ret; exact ⟨rfl, rfl⟩)

theorem del48_some (b off n c i j : Nat) (w W1 W2 : World) (hij : i < j) (hj : j ≤ n) (hn : n ≤ c) (hc : n ≤ 140737488355328) (A : Addr) (hA : (if c = j then some (⟨b, off, none⟩ : Addr) else some ⟨b, off + j * 3, none⟩) = some A)
    (hap : ∀ ty, (Builtin.append_ #[84, 84] ty #[.slice (some ⟨b, off, none⟩) i c, .slice (some A) (n - j) (c - j)]).run Tryd.prog w.drew = .ok (.slice (some ⟨b, off, none⟩) (i + (n - j)) c) W1)
    (hcl : ∀ ty, (Builtin.clear_ #[84] ty #[.slice (some ⟨b, off + (i + (n - j)) * 3, none⟩) (n - (i + (n - j))) (c - (i + (n - j)))]).run Tryd.prog W1 = .ok (.tuple #[]) W2) :
    Calls Tryd.prog 48 #[.slice (some ⟨b, off, none⟩) n c, .int .i64 i, .int .i64 j] w fun e w' => e = .returned (.slice (some ⟨b, off, none⟩) (i + (n - j)) c) ∧ w' = W2 := by
  have hic : i ≤ c := by omega
  have hjc : j ≤ c := by omega
  have hz1 : ¬ ((i : Int) = (j : Int)) := by omega
  have hb1 : ¬ (c = i + (n - j)) := by omega
  have hb2 : i + (n - j) ≤ n := by omega
  have hi0 : (0 : Int) ≤ (i : Int) := by omega
  have hij' : (i : Int) ≤ (j : Int) := by omega
  have hjn : (j : Int) ≤ (n : Int) := by omega
  have mixed : Tryd.prog.follows .mixedOrders = true := by kernel_rfl
  go_enter Tryd.func48, Tryd.ntmps48
  go_wp2_with fail
  go_region_law_o (refine step_append_R rfl (.tmp 22) (.tmp 25) 84 84 rfl (.slice (some ⟨b, off, none⟩) i c) (.slice (some A) (n - j) (c - j)) (by simp [Act.eval, Act.put]) (by simp [Act.eval, Act.put, ← hA]) (hap _) ?_)
  go_wp2
  go_ret
  exact ⟨rfl, rfl⟩

end
theorem delW48 : DelW Tryd.prog 48 84 3 := ⟨del48_none, del48_some⟩

set_option maxHeartbeats 1000000 in
set_option maxRecDepth 100000 in
theorem cmp122 (a b : List UInt8) (w : World) : Calls Tryd.prog 122 #[.string ⟨⟨a⟩⟩, .string ⟨⟨b⟩⟩] w fun e w' => e = .returned (.int .i64 (Lib.compareBytes a b)) ∧ w' = w := by
  have mixed : Tryd.prog.follows .mixedOrders = true := by kernel_rfl
  go_enter Tryd.func122, Tryd.ntmps122
  go_wp2
  rw [run_callFunc_extern Tryd.func124 (by kernel_rfl) (by kernel_rfl) (by kernel_rfl) (e := Extern.BytealgCompare.compare) (by kernel_rfl), Lib.run_compareString]
  simp only [Result.andThen]
  rw [Oper.upon_value]
  go_wp2
  go_ret
  exact ⟨rfl, rfl⟩

set_option maxHeartbeats 1000000 in
set_option maxRecDepth 100000 in
theorem cmp117 (a b : List UInt8) (w : World) : Calls Tryd.prog 117 #[.string ⟨⟨a⟩⟩, .string ⟨⟨b⟩⟩] w fun e w' => e = .returned (.int .i64 (Lib.compareBytes a b)) ∧ w' = w := by
  have mixed : Tryd.prog.follows .mixedOrders = true := by kernel_rfl
  have e1 : ∀ args w, (callFunc 122 args).run Tryd.prog w = .ok (.enter 122 args) w := enters_of Tryd.func122 (by kernel_rfl) rfl
  go_enter Tryd.func117, Tryd.ntmps117
  go_wp2_with (go_at_fn 122; refine (cmp122 _ _ _).mono ?_; rintro e w' ⟨rfl, rfl⟩)
  go_ret
  exact ⟨rfl, rfl⟩

end Go.Proofs.YtkfikongenapfaaDoor.E

namespace Go.Proofs.YtkfikongenapfaaDoor.E
open Go Go.Proofs
theorem prim_ok : PrimOk Tryd.prog E0 := fun f dst svs σ σ' sv h => by cases h

theorem hands_ok : HandsOk Tryd.prog glob0 handT := by
  intro f e he a q o hg
  unfold handT tab at he
  split at he
  · rename_i hf
    obtain rfl := Nat.eq_of_beq_eq_true hf
    obtain rfl := Option.some.inj he
    exact hIns_ok insW47 elT84 Tryd.underlying3 rfl a q o hg
  · unfold tab at he
    split at he
    · rename_i hf
      obtain rfl := Nat.eq_of_beq_eq_true hf
      obtain rfl := Option.some.inj he
      exact hDel_ok delW48 elT84 rfl a q o hg
    · unfold tab at he
      split at he
      · rename_i hf
        obtain rfl := Nat.eq_of_beq_eq_true hf
        obtain rfl := Option.some.inj he
        exact hCmp_ok cmp117 a q o hg
      · cases he

theorem fn_ok (k : Nat) : FnOk Tryd.prog E0 (fnE E0 k) := mkEnv_ok (by kernel_rfl) prim_ok (by kernel_rfl) (by kernel_rfl) k hands_ok (by kernel_rfl)

end Go.Proofs.YtkfikongenapfaaDoor.E

