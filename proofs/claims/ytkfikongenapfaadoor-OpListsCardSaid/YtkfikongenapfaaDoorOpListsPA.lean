/- The forms of the functions, and plain laws on what they come to. No condition. -/
import Derived.Test.YtkfikongenapfaaDoorGD
import Derived.Test.YtkfikongenapfaaDoorProg
import Derived.KernelRfl
import Derived.IntWalk

namespace Go.Proofs.YtkfikongenapfaaDoor.E
open Go Go.Proofs
set_option linter.unusedVariables false
abbrev u8 : Ty := .int .u8

abbrev i64 : Ty := .int .i64

abbrev bs : Ty := .sl false u8

abbrev yid : Ty := .pair i64 (.pair i64 .unit)

abbrev yplace : Ty := .pair yid (.pair .str .unit)

abbrev ychild : Ty := .pair .str (.pair yid .unit)

abbrev yplaces : Ty := .map true yid yplace

abbrev ylists : Ty := .map true yid (.sl true ychild)

abbrev ykids : Ty := .pair yplaces (.pair ylists .unit)

abbrev yseen : Ty := .map true yid i64

abbrev ywalker : Ty := .pair (.ref false ykids) (.pair yseen (.pair (.sl true yid) .unit))

abbrev ycut : Ty := .pair yid (.pair i64 (.pair i64 .unit))

abbrev ycall : Ty := .pair i64 (.pair yid (.pair yplace .unit))

abbrev ychar : Ty := .pair yid (.pair i64 .unit)

abbrev yop : Ty := .pair i64 (.pair yid (.pair i64 (.pair yid (.pair yid (.pair .str (.pair yid (.pair ychar (.pair ychar (.pair .str (.pair (.sl false ycut) (.pair .bool .unit)))))))))))

abbrev yopO : Ty := .pair i64 (.pair yid (.pair i64 (.pair yid (.pair yid (.pair .str (.pair yid (.pair ychar (.pair ychar (.pair .str (.pair (.sl true ycut) (.pair .bool .unit)))))))))))

abbrev ywriter : Ty := .pair (.sl true u8) .unit

abbrev ycur : Ty := .pair bs (.pair .bool .unit)

abbrev yreader : Ty := .pair (.ref true ycur) .unit

def prim0 : FuncId → Option Nat → List SV → St → OpR := fun _ _ _ _ => none

def glob0 : Glob := fun g => match g with | 0 => some ⟨yid, (0, (0, ()))⟩ | 1 => some ⟨yid, (1, (0, ()))⟩ | _ => none

def tyT : List (Nat × Ty) := [(84, .sl true ychild), (45, yplaces), (79, ylists), (81, ykids), (27, .ref true ykids), (130, yseen), (132, ywalker), (129, .ref true ywalker), (93, .ref true ywriter), (95, ywriter), (107, .ref true ycur), (110, yreader), (109, yreader)]

def tyF : List (Nat × List (Nat × Ty)) := [(36, [(57, yopO)]), (28, [(57, yopO)])]

def sigT : List (Nat × Sig) := [(3, ⟨[(false, .sl false ycall), (false, yid), (false, yid)], [.bool]⟩),
   (4, ⟨[(false, .sl false ycall), (false, yid)], [.bool]⟩),
   (5, ⟨[(false, yop), (false, i64), (false, u8)], [.bool]⟩),
   (6, ⟨[(true, bs), (false, yop), (false, yop)], [.bool]⟩),
   (7, ⟨[(false, yop)], [.bool]⟩),
   (8, ⟨[(true, bs)], [.bool]⟩),
   (9, ⟨[(false, .sl false yop), (false, i64)], [.bool]⟩),
   (10, ⟨[], [.bool]⟩),
   (11, ⟨[(false, .sl false ycall)], [.bool]⟩),
   (12, ⟨[], [.ref true ykids]⟩),
   (13, ⟨[(false, .ref true ykids), (false, yid), (false, yplace)], [i64]⟩),
   (14, ⟨[(false, .ref true ykids), (false, yid)], [.bool]⟩),
   (15, ⟨[(true, .ref false ykids), (false, yid), (false, yid)], [.str, .str, i64]⟩),
   (16, ⟨[(false, .str), (false, .str)], [.str, i64]⟩),
   (17, ⟨[(true, .ref false ykids), (false, yid)], [yid, .bool]⟩),
   (18, ⟨[(true, .ref false ykids), (false, yid)], [yplace, .bool]⟩),
   (19, ⟨[(true, .ref false ykids), (false, yid)], [.sl true yid]⟩),
   (20, ⟨[(true, .ref false ykids), (false, yid)], [i64, .bool]⟩),
   (21, ⟨[(false, .str), (false, .str)], [i64]⟩),
   (22, ⟨[(true, .ref false ykids), (false, yid)], [yid, .bool]⟩),
   (23, ⟨[(false, yid), (false, yid)], [i64]⟩),
   (24, ⟨[], [.bool]⟩),
   (25, ⟨[(false, .sl false yop), (false, i64)], [.bool]⟩),
   (26, ⟨[(true, yop)], [.sl true u8, .bool]⟩),
   (27, ⟨[(true, yop)], [.bool]⟩),
   (28, ⟨[(true, bs)], [yop, .bool]⟩),
   (29, ⟨[(true, yop), (true, yop)], [.bool]⟩),
   (30, ⟨[(true, bs)], [.sl true u8]⟩),
   (31, ⟨[(true, bs), (true, bs)], [.bool]⟩),
   (32, ⟨[(true, yop), (true, yop)], [.bool]⟩),
   (33, ⟨[(true, yop)], [.sl true yid]⟩),
   (34, ⟨[(true, .sl false yid), (true, .sl false yid)], [.bool]⟩),
   (35, ⟨[(false, yop)], [yop]⟩),
   (36, ⟨[(true, bs)], [yop, .bool]⟩),
   (37, ⟨[(true, bs)], [.sl true yop, .bool]⟩),
   (38, ⟨[(true, bs)], [.sl true yop, .bool]⟩),
   (39, ⟨[(false, .sl false yop), (false, .sl false yop)], [.bool]⟩),
   (40, ⟨[(false, .sl false yop)], [.sl true u8, .bool]⟩),
   (41, ⟨[(false, .sl false yop)], [.sl true u8, .bool]⟩),
   (42, ⟨[(true, .ref false ykids), (false, yid)], [.sl true yid]⟩),
   (43, ⟨[(false, yid)], [.bool]⟩),
   (44, ⟨[(false, yid)], [.bool]⟩),
   (45, ⟨[(false, .str)], [.bool]⟩),
   (46, ⟨[(true, .ref false ykids), (false, yid), (false, yplace)], [i64, .bool]⟩),
   (47, ⟨[(false, .sl true ychild), (false, i64), (false, .sl true ychild)], [.sl true ychild]⟩),
   (48, ⟨[(false, .sl true ychild), (false, i64), (false, i64)], [.sl true ychild]⟩),
   (51, ⟨[(false, .str)], [.bool]⟩),
   (52, ⟨[(true, .ref false ykids), (false, yid), (false, i64)], [yid, .bool]⟩),
   (53, ⟨[], [yop]⟩),
   (54, ⟨[(false, .ref true ywriter), (true, .sl false i64)], []⟩),
   (55, ⟨[(false, .ref true ywriter), (false, yid)], []⟩),
   (56, ⟨[(false, i64)], [.sl true i64]⟩),
   (57, ⟨[(false, i64), (false, .ref true ywriter), (true, yop)], []⟩),
   (58, ⟨[(false, .pair i64 (.pair i64 .unit))], [.bool]⟩),
   (59, ⟨[(true, yop)], [yop]⟩),
   (60, ⟨[(false, i64), (true, yop)], [.bool]⟩),
   (61, ⟨[(false, i64), (false, .ref true yop), (true, yop)], []⟩),
   (62, ⟨[(true, bs)], [.ref true ycur]⟩),
   (63, ⟨[(false, yreader)], [i64]⟩),
   (64, ⟨[(false, yreader)], [yid]⟩),
   (65, ⟨[(false, i64), (false, yreader), (false, .ref true yopO)], []⟩),
   (66, ⟨[(true, .ref false ycur)], [.bool]⟩),
   (67, ⟨[(true, .sl false ycut), (true, .sl false ycut)], [.bool]⟩),
   (68, ⟨[(true, .sl false yid), (false, yid)], [.bool]⟩),
   (69, ⟨[(true, .sl false ycut)], [.sl true ycut]⟩),
   (70, ⟨[(false, .ref true ycur), (false, i64)], [i64]⟩),
   (71, ⟨[(false, .ref true ycur)], [yid]⟩),
   (72, ⟨[(false, .ref true ycur)], [ychar]⟩),
   (73, ⟨[(false, .ref true ycur), (false, i64)], [.str]⟩),
   (74, ⟨[(false, yop)], [.bool]⟩),
   (75, ⟨[(false, .ref true ycur), (false, i64)], [i64]⟩),
   (76, ⟨[(false, .ref true ycur), (false, i64)], [.str]⟩),
   (77, ⟨[(false, .ref true ywriter), (false, .str)], []⟩),
   (78, ⟨[(false, i64)], [.sl true u8]⟩),
   (79, ⟨[(false, yop)], [.sl true u8, .bool]⟩),
   (80, ⟨[(false, .str)], [.sl true u8]⟩),
   (81, ⟨[(true, .ref true ywalker), (false, yid)], []⟩),
   (83, ⟨[(false, ychild), (false, ychild)], [i64]⟩),
   (86, ⟨[(false, i64)], [.sl true u8, .bool]⟩),
   (87, ⟨[(false, .ref true ywriter), (false, ychar)], []⟩),
   (88, ⟨[(false, ychar)], [.bool]⟩),
   (91, ⟨[(false, ycut)], [.bool]⟩),
   (92, ⟨[(true, bs)], [.sl true u8]⟩),
   (93, ⟨[(false, yreader)], [ychar]⟩),
   (94, ⟨[(false, yreader)], [ycut]⟩),
   (95, ⟨[(true, .sl false yid), (false, yid)], [i64]⟩),
   (96, ⟨[(false, .ref true ycur)], []⟩),
   (97, ⟨[(false, i64)], [.sl true u8, .bool]⟩),
   (98, ⟨[(false, .ref true ycur), (false, i64)], [.sl true u8]⟩),
   (99, ⟨[(false, yid)], [.bool]⟩),
   (100, ⟨[(false, yop)], [yop]⟩),
   (101, ⟨[(false, yid)], [.bool]⟩),
   (102, ⟨[(false, ychar)], [.bool]⟩),
   (103, ⟨[(false, .ref true ycur)], []⟩),
   (104, ⟨[(false, u8)], [i64]⟩),
   (105, ⟨[(false, .ref true ycur), (false, i64)], [bs, .bool]⟩),
   (106, ⟨[(false, i64)], [i64]⟩),
   (107, ⟨[(false, .str)], [.sl true u8]⟩),
   (108, ⟨[(false, yid)], [.sl true u8]⟩),
   (109, ⟨[(false, ychar)], [.sl true u8]⟩),
   (110, ⟨[(true, .sl false i64)], [i64]⟩),
   (111, ⟨[(false, .str), (false, .str)], [i64]⟩),
   (112, ⟨[(false, yid), (false, yid)], [i64]⟩),
   (115, ⟨[(false, u8)], [i64]⟩),
   (116, ⟨[(false, .int .u64)], [i64]⟩),
   (117, ⟨[(false, .str), (false, .str)], [i64]⟩),
   (118, ⟨[(false, i64), (false, i64)], [i64]⟩),
   (120, ⟨[(false, .int .u32)], [i64]⟩),
   (121, ⟨[(false, .int .u64)], [i64]⟩),
   (123, ⟨[(false, i64)], [.bool]⟩)]

def inlT : List (Nat × Sig) := [(49, ⟨[], [i64]⟩),
   (50, ⟨[], [.bool]⟩),
   (82, ⟨[], [i64, .bool]⟩),
   (89, ⟨[], [.bool]⟩),
   (90, ⟨[], [.bool]⟩),
   (114, ⟨[], [i64]⟩)]

def cut26000000_25_0 : Cut := ⟨[(.v 0 false (.sl false (.pair (.int .i64) (.pair (.pair (.int .i64) (.pair (.int .i64) .unit)) (.pair (.int .i64) (.pair (.pair (.int .i64) (.pair (.int .i64) .unit)) (.pair (.pair (.int .i64) (.pair (.int .i64) .unit)) (.pair .str (.pair (.pair (.int .i64) (.pair (.int .i64) .unit)) (.pair (.pair (.pair (.int .i64) (.pair (.int .i64) .unit)) (.pair (.int .i64) .unit)) (.pair (.pair (.pair (.int .i64) (.pair (.int .i64) .unit)) (.pair (.int .i64) .unit)) (.pair .str (.pair (.sl false (.pair (.pair (.int .i64) (.pair (.int .i64) .unit)) (.pair (.int .i64) (.pair (.int .i64) .unit)))) (.pair .bool .unit))))))))))))))], [(.t 4 false .bool), (.t 5 false (.int .i64))]⟩

def cut27000000_26_0 : Cut := ⟨[(.q 1 true (.pair (.int .i64) (.pair (.pair (.int .i64) (.pair (.int .i64) .unit)) (.pair (.int .i64) (.pair (.pair (.int .i64) (.pair (.int .i64) .unit)) (.pair (.pair (.int .i64) (.pair (.int .i64) .unit)) (.pair .str (.pair (.pair (.int .i64) (.pair (.int .i64) .unit)) (.pair (.pair (.pair (.int .i64) (.pair (.int .i64) .unit)) (.pair (.int .i64) .unit)) (.pair (.pair (.pair (.int .i64) (.pair (.int .i64) .unit)) (.pair (.int .i64) .unit)) (.pair .str (.pair (.sl false (.pair (.pair (.int .i64) (.pair (.int .i64) .unit)) (.pair (.int .i64) (.pair (.int .i64) .unit)))) (.pair .bool .unit))))))))))))), (.c 4 (.p 27000011 [])), (.v 28 true (.sl false (.int .i64))), (.v 29 false (.int .i64))], [(.t 30 false (.int .i64)), (.r 27000011 false (.pair (.sl true (.int .u8)) .unit) (.pair (.sl true (.int .u8)) .unit))]⟩

def cut28000000_27_0 : Cut := ⟨[(.q 1 true (.pair (.int .i64) (.pair (.pair (.int .i64) (.pair (.int .i64) .unit)) (.pair (.int .i64) (.pair (.pair (.int .i64) (.pair (.int .i64) .unit)) (.pair (.pair (.int .i64) (.pair (.int .i64) .unit)) (.pair .str (.pair (.pair (.int .i64) (.pair (.int .i64) .unit)) (.pair (.pair (.pair (.int .i64) (.pair (.int .i64) .unit)) (.pair (.int .i64) .unit)) (.pair (.pair (.pair (.int .i64) (.pair (.int .i64) .unit)) (.pair (.int .i64) .unit)) (.pair .str (.pair (.sl false (.pair (.pair (.int .i64) (.pair (.int .i64) .unit)) (.pair (.int .i64) (.pair (.int .i64) .unit)))) (.pair .bool .unit))))))))))))), (.c 4 (.p 28000004 [])), (.v 31 true (.sl false (.int .i64))), (.v 32 false (.int .i64))], [(.t 2 false .bool), (.t 33 false (.int .i64)), (.r 28000004 false (.pair (.int .i64) (.pair (.pair (.int .i64) (.pair (.int .i64) .unit)) (.pair (.int .i64) (.pair (.pair (.int .i64) (.pair (.int .i64) .unit)) (.pair (.pair (.int .i64) (.pair (.int .i64) .unit)) (.pair .str (.pair (.pair (.int .i64) (.pair (.int .i64) .unit)) (.pair (.pair (.pair (.int .i64) (.pair (.int .i64) .unit)) (.pair (.int .i64) .unit)) (.pair (.pair (.pair (.int .i64) (.pair (.int .i64) .unit)) (.pair (.int .i64) .unit)) (.pair .str (.pair (.sl false (.pair (.pair (.int .i64) (.pair (.int .i64) .unit)) (.pair (.int .i64) (.pair (.int .i64) .unit)))) (.pair .bool .unit)))))))))))) (.pair (.int .i64) (.pair (.pair (.int .i64) (.pair (.int .i64) .unit)) (.pair (.int .i64) (.pair (.pair (.int .i64) (.pair (.int .i64) .unit)) (.pair (.pair (.int .i64) (.pair (.int .i64) .unit)) (.pair .str (.pair (.pair (.int .i64) (.pair (.int .i64) .unit)) (.pair (.pair (.pair (.int .i64) (.pair (.int .i64) .unit)) (.pair (.int .i64) .unit)) (.pair (.pair (.pair (.int .i64) (.pair (.int .i64) .unit)) (.pair (.int .i64) .unit)) (.pair .str (.pair (.sl false (.pair (.pair (.int .i64) (.pair (.int .i64) .unit)) (.pair (.int .i64) (.pair (.int .i64) .unit)))) (.pair .bool .unit)))))))))))))]⟩

def cut29000000_28_0 : Cut := ⟨[(.c 4 (.p 29000004 [])), (.c 5 (.p 29000005 [])), (.v 22 true (.sl false (.int .i64))), (.v 23 false (.int .i64))], [(.t 24 false (.int .i64)), (.r 29000004 false (.pair (.ref true (.pair (.sl false (.int .u8)) (.pair .bool .unit))) .unit) (.pair (.ref true (.pair (.sl false (.int .u8)) (.pair .bool .unit))) .unit)), (.r 29000005 false (.pair (.int .i64) (.pair (.pair (.int .i64) (.pair (.int .i64) .unit)) (.pair (.int .i64) (.pair (.pair (.int .i64) (.pair (.int .i64) .unit)) (.pair (.pair (.int .i64) (.pair (.int .i64) .unit)) (.pair .str (.pair (.pair (.int .i64) (.pair (.int .i64) .unit)) (.pair (.pair (.pair (.int .i64) (.pair (.int .i64) .unit)) (.pair (.int .i64) .unit)) (.pair (.pair (.pair (.int .i64) (.pair (.int .i64) .unit)) (.pair (.int .i64) .unit)) (.pair .str (.pair (.sl true (.pair (.pair (.int .i64) (.pair (.int .i64) .unit)) (.pair (.int .i64) (.pair (.int .i64) .unit)))) (.pair .bool .unit)))))))))))) (.pair (.int .i64) (.pair (.pair (.int .i64) (.pair (.int .i64) .unit)) (.pair (.int .i64) (.pair (.pair (.int .i64) (.pair (.int .i64) .unit)) (.pair (.pair (.int .i64) (.pair (.int .i64) .unit)) (.pair .str (.pair (.pair (.int .i64) (.pair (.int .i64) .unit)) (.pair (.pair (.pair (.int .i64) (.pair (.int .i64) .unit)) (.pair (.int .i64) .unit)) (.pair (.pair (.pair (.int .i64) (.pair (.int .i64) .unit)) (.pair (.int .i64) .unit)) (.pair .str (.pair (.sl true (.pair (.pair (.int .i64) (.pair (.int .i64) .unit)) (.pair (.int .i64) (.pair (.int .i64) .unit)))) (.pair .bool .unit)))))))))))))]⟩

def cut30000000_29_0 : Cut := ⟨[(.q 2 true (.pair (.int .i64) (.pair (.pair (.int .i64) (.pair (.int .i64) .unit)) (.pair (.int .i64) (.pair (.pair (.int .i64) (.pair (.int .i64) .unit)) (.pair (.pair (.int .i64) (.pair (.int .i64) .unit)) (.pair .str (.pair (.pair (.int .i64) (.pair (.int .i64) .unit)) (.pair (.pair (.pair (.int .i64) (.pair (.int .i64) .unit)) (.pair (.int .i64) .unit)) (.pair (.pair (.pair (.int .i64) (.pair (.int .i64) .unit)) (.pair (.int .i64) .unit)) (.pair .str (.pair (.sl false (.pair (.pair (.int .i64) (.pair (.int .i64) .unit)) (.pair (.int .i64) (.pair (.int .i64) .unit)))) (.pair .bool .unit))))))))))))), (.q 3 true (.pair (.int .i64) (.pair (.pair (.int .i64) (.pair (.int .i64) .unit)) (.pair (.int .i64) (.pair (.pair (.int .i64) (.pair (.int .i64) .unit)) (.pair (.pair (.int .i64) (.pair (.int .i64) .unit)) (.pair .str (.pair (.pair (.int .i64) (.pair (.int .i64) .unit)) (.pair (.pair (.pair (.int .i64) (.pair (.int .i64) .unit)) (.pair (.int .i64) .unit)) (.pair (.pair (.pair (.int .i64) (.pair (.int .i64) .unit)) (.pair (.int .i64) .unit)) (.pair .str (.pair (.sl false (.pair (.pair (.int .i64) (.pair (.int .i64) .unit)) (.pair (.int .i64) (.pair (.int .i64) .unit)))) (.pair .bool .unit)))))))))))))], [(.t 4 false .bool), (.t 5 false (.int .i64))]⟩

def cut32000000_31_0 : Cut := ⟨[(.v 0 true (.sl false (.int .u8))), (.v 1 true (.sl false (.int .u8)))], [(.t 4 false .bool), (.t 5 false (.int .i64))]⟩

def cut34000000_33_0 : Cut := ⟨[(.v 23 true (.sl false (.pair (.pair (.int .i64) (.pair (.int .i64) .unit)) (.pair (.int .i64) (.pair (.int .i64) .unit))))), (.v 24 false (.int .i64))], [(.o 3 34020003 false (.pair (.int .i64) (.pair (.int .i64) .unit))), (.t 25 false (.int .i64))]⟩

def cut34000000_33_2 : Cut := ⟨[(.v 35 true (.sl false (.pair (.int .i64) (.pair (.int .i64) .unit)))), (.v 36 false (.int .i64))], [(.o 6 34020006 false (.pair (.int .i64) (.pair (.int .i64) .unit))), (.t 37 false (.int .i64))]⟩

def cut35000000_34_0 : Cut := ⟨[(.v 0 true (.sl false (.pair (.int .i64) (.pair (.int .i64) .unit)))), (.v 1 true (.sl false (.pair (.int .i64) (.pair (.int .i64) .unit))))], [(.t 4 false .bool), (.t 5 false (.int .i64))]⟩

def cut37000000_36_0 : Cut := ⟨[(.c 4 (.p 37000012 [])), (.c 5 (.p 37000005 [])), (.v 6 false (.int .i64))], [(.t 7 false (.int .i64)), (.r 37000012 false (.pair (.sl false (.int .u8)) (.pair .bool .unit)) (.pair (.sl false (.int .u8)) (.pair .bool .unit))), (.r 37000005 false (.pair (.int .i64) (.pair (.pair (.int .i64) (.pair (.int .i64) .unit)) (.pair (.int .i64) (.pair (.pair (.int .i64) (.pair (.int .i64) .unit)) (.pair (.pair (.int .i64) (.pair (.int .i64) .unit)) (.pair .str (.pair (.pair (.int .i64) (.pair (.int .i64) .unit)) (.pair (.pair (.pair (.int .i64) (.pair (.int .i64) .unit)) (.pair (.int .i64) .unit)) (.pair (.pair (.pair (.int .i64) (.pair (.int .i64) .unit)) (.pair (.int .i64) .unit)) (.pair .str (.pair (.sl true (.pair (.pair (.int .i64) (.pair (.int .i64) .unit)) (.pair (.int .i64) (.pair (.int .i64) .unit)))) (.pair .bool .unit)))))))))))) (.pair (.int .i64) (.pair (.pair (.int .i64) (.pair (.int .i64) .unit)) (.pair (.int .i64) (.pair (.pair (.int .i64) (.pair (.int .i64) .unit)) (.pair (.pair (.int .i64) (.pair (.int .i64) .unit)) (.pair .str (.pair (.pair (.int .i64) (.pair (.int .i64) .unit)) (.pair (.pair (.pair (.int .i64) (.pair (.int .i64) .unit)) (.pair (.int .i64) .unit)) (.pair (.pair (.pair (.int .i64) (.pair (.int .i64) .unit)) (.pair (.int .i64) .unit)) (.pair .str (.pair (.sl true (.pair (.pair (.int .i64) (.pair (.int .i64) .unit)) (.pair (.int .i64) (.pair (.int .i64) .unit)))) (.pair .bool .unit)))))))))))))]⟩

def cut37000000_36_1006 : Cut := ⟨[(.c 4 (.p 37000012 [])), (.c 5 (.p 37000005 [])), (.v 29 false .bool)], [(.r 37000012 false (.pair (.sl false (.int .u8)) (.pair .bool .unit)) (.pair (.sl false (.int .u8)) (.pair .bool .unit))), (.r 37000005 false (.pair (.int .i64) (.pair (.pair (.int .i64) (.pair (.int .i64) .unit)) (.pair (.int .i64) (.pair (.pair (.int .i64) (.pair (.int .i64) .unit)) (.pair (.pair (.int .i64) (.pair (.int .i64) .unit)) (.pair .str (.pair (.pair (.int .i64) (.pair (.int .i64) .unit)) (.pair (.pair (.pair (.int .i64) (.pair (.int .i64) .unit)) (.pair (.int .i64) .unit)) (.pair (.pair (.pair (.int .i64) (.pair (.int .i64) .unit)) (.pair (.int .i64) .unit)) (.pair .str (.pair (.sl true (.pair (.pair (.int .i64) (.pair (.int .i64) .unit)) (.pair (.int .i64) (.pair (.int .i64) .unit)))) (.pair .bool .unit)))))))))))) (.pair (.int .i64) (.pair (.pair (.int .i64) (.pair (.int .i64) .unit)) (.pair (.int .i64) (.pair (.pair (.int .i64) (.pair (.int .i64) .unit)) (.pair (.pair (.int .i64) (.pair (.int .i64) .unit)) (.pair .str (.pair (.pair (.int .i64) (.pair (.int .i64) .unit)) (.pair (.pair (.pair (.int .i64) (.pair (.int .i64) .unit)) (.pair (.int .i64) .unit)) (.pair (.pair (.pair (.int .i64) (.pair (.int .i64) .unit)) (.pair (.int .i64) .unit)) (.pair .str (.pair (.sl true (.pair (.pair (.int .i64) (.pair (.int .i64) .unit)) (.pair (.int .i64) (.pair (.int .i64) .unit)))) (.pair .bool .unit)))))))))))))]⟩

def cut37000000_36_1008 : Cut := ⟨[(.c 4 (.p 37000012 [])), (.c 5 (.p 37000005 [])), (.v 40 false .bool)], [(.r 37000012 false (.pair (.sl false (.int .u8)) (.pair .bool .unit)) (.pair (.sl false (.int .u8)) (.pair .bool .unit))), (.r 37000005 false (.pair (.int .i64) (.pair (.pair (.int .i64) (.pair (.int .i64) .unit)) (.pair (.int .i64) (.pair (.pair (.int .i64) (.pair (.int .i64) .unit)) (.pair (.pair (.int .i64) (.pair (.int .i64) .unit)) (.pair .str (.pair (.pair (.int .i64) (.pair (.int .i64) .unit)) (.pair (.pair (.pair (.int .i64) (.pair (.int .i64) .unit)) (.pair (.int .i64) .unit)) (.pair (.pair (.pair (.int .i64) (.pair (.int .i64) .unit)) (.pair (.int .i64) .unit)) (.pair .str (.pair (.sl true (.pair (.pair (.int .i64) (.pair (.int .i64) .unit)) (.pair (.int .i64) (.pair (.int .i64) .unit)))) (.pair .bool .unit)))))))))))) (.pair (.int .i64) (.pair (.pair (.int .i64) (.pair (.int .i64) .unit)) (.pair (.int .i64) (.pair (.pair (.int .i64) (.pair (.int .i64) .unit)) (.pair (.pair (.int .i64) (.pair (.int .i64) .unit)) (.pair .str (.pair (.pair (.int .i64) (.pair (.int .i64) .unit)) (.pair (.pair (.pair (.int .i64) (.pair (.int .i64) .unit)) (.pair (.int .i64) .unit)) (.pair (.pair (.pair (.int .i64) (.pair (.int .i64) .unit)) (.pair (.int .i64) .unit)) (.pair .str (.pair (.sl true (.pair (.pair (.int .i64) (.pair (.int .i64) .unit)) (.pair (.int .i64) (.pair (.int .i64) .unit)))) (.pair .bool .unit)))))))))))))]⟩

def cut37000000_36_1012 : Cut := ⟨[(.c 4 (.p 37000012 [])), (.c 5 (.p 37000005 [])), (.v 62 false .bool)], [(.r 37000012 false (.pair (.sl false (.int .u8)) (.pair .bool .unit)) (.pair (.sl false (.int .u8)) (.pair .bool .unit))), (.r 37000005 false (.pair (.int .i64) (.pair (.pair (.int .i64) (.pair (.int .i64) .unit)) (.pair (.int .i64) (.pair (.pair (.int .i64) (.pair (.int .i64) .unit)) (.pair (.pair (.int .i64) (.pair (.int .i64) .unit)) (.pair .str (.pair (.pair (.int .i64) (.pair (.int .i64) .unit)) (.pair (.pair (.pair (.int .i64) (.pair (.int .i64) .unit)) (.pair (.int .i64) .unit)) (.pair (.pair (.pair (.int .i64) (.pair (.int .i64) .unit)) (.pair (.int .i64) .unit)) (.pair .str (.pair (.sl true (.pair (.pair (.int .i64) (.pair (.int .i64) .unit)) (.pair (.int .i64) (.pair (.int .i64) .unit)))) (.pair .bool .unit)))))))))))) (.pair (.int .i64) (.pair (.pair (.int .i64) (.pair (.int .i64) .unit)) (.pair (.int .i64) (.pair (.pair (.int .i64) (.pair (.int .i64) .unit)) (.pair (.pair (.int .i64) (.pair (.int .i64) .unit)) (.pair .str (.pair (.pair (.int .i64) (.pair (.int .i64) .unit)) (.pair (.pair (.pair (.int .i64) (.pair (.int .i64) .unit)) (.pair (.int .i64) .unit)) (.pair (.pair (.pair (.int .i64) (.pair (.int .i64) .unit)) (.pair (.int .i64) .unit)) (.pair .str (.pair (.sl true (.pair (.pair (.int .i64) (.pair (.int .i64) .unit)) (.pair (.int .i64) (.pair (.int .i64) .unit)))) (.pair .bool .unit)))))))))))))]⟩

def cut37000000_36_1015 : Cut := ⟨[(.c 4 (.p 37000012 [])), (.c 5 (.p 37000005 [])), (.v 71 false .bool)], [(.r 37000012 false (.pair (.sl false (.int .u8)) (.pair .bool .unit)) (.pair (.sl false (.int .u8)) (.pair .bool .unit))), (.r 37000005 false (.pair (.int .i64) (.pair (.pair (.int .i64) (.pair (.int .i64) .unit)) (.pair (.int .i64) (.pair (.pair (.int .i64) (.pair (.int .i64) .unit)) (.pair (.pair (.int .i64) (.pair (.int .i64) .unit)) (.pair .str (.pair (.pair (.int .i64) (.pair (.int .i64) .unit)) (.pair (.pair (.pair (.int .i64) (.pair (.int .i64) .unit)) (.pair (.int .i64) .unit)) (.pair (.pair (.pair (.int .i64) (.pair (.int .i64) .unit)) (.pair (.int .i64) .unit)) (.pair .str (.pair (.sl true (.pair (.pair (.int .i64) (.pair (.int .i64) .unit)) (.pair (.int .i64) (.pair (.int .i64) .unit)))) (.pair .bool .unit)))))))))))) (.pair (.int .i64) (.pair (.pair (.int .i64) (.pair (.int .i64) .unit)) (.pair (.int .i64) (.pair (.pair (.int .i64) (.pair (.int .i64) .unit)) (.pair (.pair (.int .i64) (.pair (.int .i64) .unit)) (.pair .str (.pair (.pair (.int .i64) (.pair (.int .i64) .unit)) (.pair (.pair (.pair (.int .i64) (.pair (.int .i64) .unit)) (.pair (.int .i64) .unit)) (.pair (.pair (.pair (.int .i64) (.pair (.int .i64) .unit)) (.pair (.int .i64) .unit)) (.pair .str (.pair (.sl true (.pair (.pair (.int .i64) (.pair (.int .i64) .unit)) (.pair (.int .i64) (.pair (.int .i64) .unit)))) (.pair .bool .unit)))))))))))))]⟩

def cut37000000_36_1017 : Cut := ⟨[(.c 4 (.p 37000012 [])), (.c 5 (.p 37000005 [])), (.v 77 false .bool)], [(.r 37000012 false (.pair (.sl false (.int .u8)) (.pair .bool .unit)) (.pair (.sl false (.int .u8)) (.pair .bool .unit))), (.r 37000005 false (.pair (.int .i64) (.pair (.pair (.int .i64) (.pair (.int .i64) .unit)) (.pair (.int .i64) (.pair (.pair (.int .i64) (.pair (.int .i64) .unit)) (.pair (.pair (.int .i64) (.pair (.int .i64) .unit)) (.pair .str (.pair (.pair (.int .i64) (.pair (.int .i64) .unit)) (.pair (.pair (.pair (.int .i64) (.pair (.int .i64) .unit)) (.pair (.int .i64) .unit)) (.pair (.pair (.pair (.int .i64) (.pair (.int .i64) .unit)) (.pair (.int .i64) .unit)) (.pair .str (.pair (.sl true (.pair (.pair (.int .i64) (.pair (.int .i64) .unit)) (.pair (.int .i64) (.pair (.int .i64) .unit)))) (.pair .bool .unit)))))))))))) (.pair (.int .i64) (.pair (.pair (.int .i64) (.pair (.int .i64) .unit)) (.pair (.int .i64) (.pair (.pair (.int .i64) (.pair (.int .i64) .unit)) (.pair (.pair (.int .i64) (.pair (.int .i64) .unit)) (.pair .str (.pair (.pair (.int .i64) (.pair (.int .i64) .unit)) (.pair (.pair (.pair (.int .i64) (.pair (.int .i64) .unit)) (.pair (.int .i64) .unit)) (.pair (.pair (.pair (.int .i64) (.pair (.int .i64) .unit)) (.pair (.int .i64) .unit)) (.pair .str (.pair (.sl true (.pair (.pair (.int .i64) (.pair (.int .i64) .unit)) (.pair (.int .i64) (.pair (.int .i64) .unit)))) (.pair .bool .unit)))))))))))))]⟩

def cut37000000_36_1026 : Cut := ⟨[(.c 4 (.p 37000012 [])), (.c 5 (.p 37000005 [])), (.v 102 false .bool)], [(.r 37000012 false (.pair (.sl false (.int .u8)) (.pair .bool .unit)) (.pair (.sl false (.int .u8)) (.pair .bool .unit))), (.r 37000005 false (.pair (.int .i64) (.pair (.pair (.int .i64) (.pair (.int .i64) .unit)) (.pair (.int .i64) (.pair (.pair (.int .i64) (.pair (.int .i64) .unit)) (.pair (.pair (.int .i64) (.pair (.int .i64) .unit)) (.pair .str (.pair (.pair (.int .i64) (.pair (.int .i64) .unit)) (.pair (.pair (.pair (.int .i64) (.pair (.int .i64) .unit)) (.pair (.int .i64) .unit)) (.pair (.pair (.pair (.int .i64) (.pair (.int .i64) .unit)) (.pair (.int .i64) .unit)) (.pair .str (.pair (.sl true (.pair (.pair (.int .i64) (.pair (.int .i64) .unit)) (.pair (.int .i64) (.pair (.int .i64) .unit)))) (.pair .bool .unit)))))))))))) (.pair (.int .i64) (.pair (.pair (.int .i64) (.pair (.int .i64) .unit)) (.pair (.int .i64) (.pair (.pair (.int .i64) (.pair (.int .i64) .unit)) (.pair (.pair (.int .i64) (.pair (.int .i64) .unit)) (.pair .str (.pair (.pair (.int .i64) (.pair (.int .i64) .unit)) (.pair (.pair (.pair (.int .i64) (.pair (.int .i64) .unit)) (.pair (.int .i64) .unit)) (.pair (.pair (.pair (.int .i64) (.pair (.int .i64) .unit)) (.pair (.int .i64) .unit)) (.pair .str (.pair (.sl true (.pair (.pair (.int .i64) (.pair (.int .i64) .unit)) (.pair (.int .i64) (.pair (.int .i64) .unit)))) (.pair .bool .unit)))))))))))))]⟩

def cut38000000_37_0 : Cut := ⟨[(.c 4 (.p 38000004 []))], [(.o 2 38020002 false (.pair (.int .i64) (.pair (.pair (.int .i64) (.pair (.int .i64) .unit)) (.pair (.int .i64) (.pair (.pair (.int .i64) (.pair (.int .i64) .unit)) (.pair (.pair (.int .i64) (.pair (.int .i64) .unit)) (.pair .str (.pair (.pair (.int .i64) (.pair (.int .i64) .unit)) (.pair (.pair (.pair (.int .i64) (.pair (.int .i64) .unit)) (.pair (.int .i64) .unit)) (.pair (.pair (.pair (.int .i64) (.pair (.int .i64) .unit)) (.pair (.int .i64) .unit)) (.pair .str (.pair (.sl false (.pair (.pair (.int .i64) (.pair (.int .i64) .unit)) (.pair (.int .i64) (.pair (.int .i64) .unit)))) (.pair .bool .unit))))))))))))), (.t 3 false .bool), (.o 5 38020005 false (.pair (.int .i64) (.pair (.pair (.int .i64) (.pair (.int .i64) .unit)) (.pair (.int .i64) (.pair (.pair (.int .i64) (.pair (.int .i64) .unit)) (.pair (.pair (.int .i64) (.pair (.int .i64) .unit)) (.pair .str (.pair (.pair (.int .i64) (.pair (.int .i64) .unit)) (.pair (.pair (.pair (.int .i64) (.pair (.int .i64) .unit)) (.pair (.int .i64) .unit)) (.pair (.pair (.pair (.int .i64) (.pair (.int .i64) .unit)) (.pair (.int .i64) .unit)) (.pair .str (.pair (.sl false (.pair (.pair (.int .i64) (.pair (.int .i64) .unit)) (.pair (.int .i64) (.pair (.int .i64) .unit)))) (.pair .bool .unit))))))))))))), (.t 6 false (.int .i64)), (.r 38000004 false (.pair (.ref true (.pair (.sl false (.int .u8)) (.pair .bool .unit))) .unit) (.pair (.ref true (.pair (.sl false (.int .u8)) (.pair .bool .unit))) .unit))]⟩

def cut39000000_38_0 : Cut := ⟨[(.c 4 (.p 39000013 [])), (.v 5 false (.int .i64))], [(.o 2 39020002 false (.pair (.int .i64) (.pair (.pair (.int .i64) (.pair (.int .i64) .unit)) (.pair (.int .i64) (.pair (.pair (.int .i64) (.pair (.int .i64) .unit)) (.pair (.pair (.int .i64) (.pair (.int .i64) .unit)) (.pair .str (.pair (.pair (.int .i64) (.pair (.int .i64) .unit)) (.pair (.pair (.pair (.int .i64) (.pair (.int .i64) .unit)) (.pair (.int .i64) .unit)) (.pair (.pair (.pair (.int .i64) (.pair (.int .i64) .unit)) (.pair (.int .i64) .unit)) (.pair .str (.pair (.sl false (.pair (.pair (.int .i64) (.pair (.int .i64) .unit)) (.pair (.int .i64) (.pair (.int .i64) .unit)))) (.pair .bool .unit))))))))))))), (.t 3 false .bool), (.o 6 39020006 false (.pair (.int .i64) (.pair (.pair (.int .i64) (.pair (.int .i64) .unit)) (.pair (.int .i64) (.pair (.pair (.int .i64) (.pair (.int .i64) .unit)) (.pair (.pair (.int .i64) (.pair (.int .i64) .unit)) (.pair .str (.pair (.pair (.int .i64) (.pair (.int .i64) .unit)) (.pair (.pair (.pair (.int .i64) (.pair (.int .i64) .unit)) (.pair (.int .i64) .unit)) (.pair (.pair (.pair (.int .i64) (.pair (.int .i64) .unit)) (.pair (.int .i64) .unit)) (.pair .str (.pair (.sl false (.pair (.pair (.int .i64) (.pair (.int .i64) .unit)) (.pair (.int .i64) (.pair (.int .i64) .unit)))) (.pair .bool .unit))))))))))))), (.t 7 false (.int .i64)), (.r 39000013 false (.pair (.sl false (.int .u8)) (.pair .bool .unit)) (.pair (.sl false (.int .u8)) (.pair .bool .unit)))]⟩

def cut40000000_39_0 : Cut := ⟨[(.v 0 false (.sl false (.pair (.int .i64) (.pair (.pair (.int .i64) (.pair (.int .i64) .unit)) (.pair (.int .i64) (.pair (.pair (.int .i64) (.pair (.int .i64) .unit)) (.pair (.pair (.int .i64) (.pair (.int .i64) .unit)) (.pair .str (.pair (.pair (.int .i64) (.pair (.int .i64) .unit)) (.pair (.pair (.pair (.int .i64) (.pair (.int .i64) .unit)) (.pair (.int .i64) .unit)) (.pair (.pair (.pair (.int .i64) (.pair (.int .i64) .unit)) (.pair (.int .i64) .unit)) (.pair .str (.pair (.sl false (.pair (.pair (.int .i64) (.pair (.int .i64) .unit)) (.pair (.int .i64) (.pair (.int .i64) .unit)))) (.pair .bool .unit)))))))))))))), (.v 1 false (.sl false (.pair (.int .i64) (.pair (.pair (.int .i64) (.pair (.int .i64) .unit)) (.pair (.int .i64) (.pair (.pair (.int .i64) (.pair (.int .i64) .unit)) (.pair (.pair (.int .i64) (.pair (.int .i64) .unit)) (.pair .str (.pair (.pair (.int .i64) (.pair (.int .i64) .unit)) (.pair (.pair (.pair (.int .i64) (.pair (.int .i64) .unit)) (.pair (.int .i64) .unit)) (.pair (.pair (.pair (.int .i64) (.pair (.int .i64) .unit)) (.pair (.int .i64) .unit)) (.pair .str (.pair (.sl false (.pair (.pair (.int .i64) (.pair (.int .i64) .unit)) (.pair (.int .i64) (.pair (.int .i64) .unit)))) (.pair .bool .unit))))))))))))))], [(.t 4 false .bool), (.t 5 false (.int .i64))]⟩

def cut41000000_40_0 : Cut := ⟨[(.c 4 (.p 41000010 [])), (.v 16 false (.sl false (.pair (.int .i64) (.pair (.pair (.int .i64) (.pair (.int .i64) .unit)) (.pair (.int .i64) (.pair (.pair (.int .i64) (.pair (.int .i64) .unit)) (.pair (.pair (.int .i64) (.pair (.int .i64) .unit)) (.pair .str (.pair (.pair (.int .i64) (.pair (.int .i64) .unit)) (.pair (.pair (.pair (.int .i64) (.pair (.int .i64) .unit)) (.pair (.int .i64) .unit)) (.pair (.pair (.pair (.int .i64) (.pair (.int .i64) .unit)) (.pair (.int .i64) .unit)) (.pair .str (.pair (.sl false (.pair (.pair (.int .i64) (.pair (.int .i64) .unit)) (.pair (.int .i64) (.pair (.int .i64) .unit)))) (.pair .bool .unit)))))))))))))), (.v 17 false (.int .i64))], [(.o 2 41020002 false (.int .u8)), (.t 3 false .bool), (.t 18 false (.int .i64)), (.r 41000010 false (.pair (.sl true (.int .u8)) .unit) (.pair (.sl true (.int .u8)) .unit))]⟩

def cut42000000_41_0 : Cut := ⟨[(.v 0 false (.sl false (.pair (.int .i64) (.pair (.pair (.int .i64) (.pair (.int .i64) .unit)) (.pair (.int .i64) (.pair (.pair (.int .i64) (.pair (.int .i64) .unit)) (.pair (.pair (.int .i64) (.pair (.int .i64) .unit)) (.pair .str (.pair (.pair (.int .i64) (.pair (.int .i64) .unit)) (.pair (.pair (.pair (.int .i64) (.pair (.int .i64) .unit)) (.pair (.int .i64) .unit)) (.pair (.pair (.pair (.int .i64) (.pair (.int .i64) .unit)) (.pair (.int .i64) .unit)) (.pair .str (.pair (.sl false (.pair (.pair (.int .i64) (.pair (.int .i64) .unit)) (.pair (.int .i64) (.pair (.int .i64) .unit)))) (.pair .bool .unit))))))))))))))], [(.o 2 42020002 false (.int .u8)), (.t 3 false .bool), (.o 4 42020004 false (.int .u8)), (.t 5 false (.int .i64))]⟩

def cut55000000_54_0 : Cut := ⟨[(.c 0 (.p 0 [])), (.v 8 true (.sl false (.int .i64))), (.v 9 false (.int .i64))], [(.t 10 false (.int .i64)), (.r 0 false (.pair (.sl true (.int .u8)) .unit) (.pair (.sl true (.int .u8)) .unit))]⟩

def cut58000000_57_1 : Cut := ⟨[(.c 1 (.p 1 [])), (.v 55 true (.sl false (.pair (.pair (.int .i64) (.pair (.int .i64) .unit)) (.pair (.int .i64) (.pair (.int .i64) .unit))))), (.v 56 false (.int .i64))], [(.t 57 false (.int .i64)), (.r 1 false (.pair (.sl true (.int .u8)) .unit) (.pair (.sl true (.int .u8)) .unit))]⟩

def cut61063008000000_114_0 : Cut := ⟨[(.v 0 true (.sl false (.pair (.pair (.int .i64) (.pair (.int .i64) .unit)) (.pair (.int .i64) (.pair (.int .i64) .unit))))), (.c 1 (.fn 90 [] [])), (.v 7 false (.int .i64))], [(.t 4 false (.int .i64)), (.t 8 false (.int .i64))]⟩

def cut66000000_65_1 : Cut := ⟨[(.c 1 (.v false (.pair (.hole 1) .unit) (.unit, .unit))), (.c 2 (.p 2 [])), (.c 4 (.p 66000004 []))], [(.t 6 false (.int .i64)), (.r 1 false (.pair (.sl false (.int .u8)) (.pair .bool .unit)) (.pair (.sl false (.int .u8)) (.pair .bool .unit))), (.r 2 false (.pair (.int .i64) (.pair (.pair (.int .i64) (.pair (.int .i64) .unit)) (.pair (.int .i64) (.pair (.pair (.int .i64) (.pair (.int .i64) .unit)) (.pair (.pair (.int .i64) (.pair (.int .i64) .unit)) (.pair .str (.pair (.pair (.int .i64) (.pair (.int .i64) .unit)) (.pair (.pair (.pair (.int .i64) (.pair (.int .i64) .unit)) (.pair (.int .i64) .unit)) (.pair (.pair (.pair (.int .i64) (.pair (.int .i64) .unit)) (.pair (.int .i64) .unit)) (.pair .str (.pair (.sl true (.pair (.pair (.int .i64) (.pair (.int .i64) .unit)) (.pair (.int .i64) (.pair (.int .i64) .unit)))) (.pair .bool .unit)))))))))))) (.pair (.int .i64) (.pair (.pair (.int .i64) (.pair (.int .i64) .unit)) (.pair (.int .i64) (.pair (.pair (.int .i64) (.pair (.int .i64) .unit)) (.pair (.pair (.int .i64) (.pair (.int .i64) .unit)) (.pair .str (.pair (.pair (.int .i64) (.pair (.int .i64) .unit)) (.pair (.pair (.pair (.int .i64) (.pair (.int .i64) .unit)) (.pair (.int .i64) .unit)) (.pair (.pair (.pair (.int .i64) (.pair (.int .i64) .unit)) (.pair (.int .i64) .unit)) (.pair .str (.pair (.sl true (.pair (.pair (.int .i64) (.pair (.int .i64) .unit)) (.pair (.int .i64) (.pair (.int .i64) .unit)))) (.pair .bool .unit))))))))))))), (.r 66000004 false (.pair (.hole 1) .unit) (.pair (.ref true (.pair (.sl false (.int .u8)) (.pair .bool .unit))) .unit))]⟩

def cut68000000_67_0 : Cut := ⟨[(.v 0 true (.sl false (.pair (.pair (.int .i64) (.pair (.int .i64) .unit)) (.pair (.int .i64) (.pair (.int .i64) .unit))))), (.v 1 true (.sl false (.pair (.pair (.int .i64) (.pair (.int .i64) .unit)) (.pair (.int .i64) (.pair (.int .i64) .unit))))), (.v 12 false (.int .i64))], [(.t 4 false .bool), (.t 13 false (.int .i64))]⟩

def cut71000000_70_0 : Cut := ⟨[], [(.t 5 false (.int .i64)), (.t 6 false (.int .i64)), (.t 7 false (.int .i64))]⟩

def cut71000000_70_2 : Cut := ⟨[(.q 0 true (.pair (.sl false (.int .u8)) (.pair .bool .unit))), (.v 5 false (.int .i64))], [(.t 8 false (.int .i64)), (.t 9 false (.int .i64))]⟩

def cut75000000_74_0 : Cut := ⟨[(.q 1 true (.pair (.int .i64) (.pair (.pair (.int .i64) (.pair (.int .i64) .unit)) (.pair (.int .i64) (.pair (.pair (.int .i64) (.pair (.int .i64) .unit)) (.pair (.pair (.int .i64) (.pair (.int .i64) .unit)) (.pair .str (.pair (.pair (.int .i64) (.pair (.int .i64) .unit)) (.pair (.pair (.pair (.int .i64) (.pair (.int .i64) .unit)) (.pair (.int .i64) .unit)) (.pair (.pair (.pair (.int .i64) (.pair (.int .i64) .unit)) (.pair (.int .i64) .unit)) (.pair .str (.pair (.sl false (.pair (.pair (.int .i64) (.pair (.int .i64) .unit)) (.pair (.int .i64) (.pair (.int .i64) .unit)))) (.pair .bool .unit))))))))))))), (.v 3 false .bool), (.v 4 false .bool), (.v 50 false (.int .i64))], [(.t 2 false .bool)]⟩

def cut75000000_74_1 : Cut := ⟨[(.q 1 true (.pair (.int .i64) (.pair (.pair (.int .i64) (.pair (.int .i64) .unit)) (.pair (.int .i64) (.pair (.pair (.int .i64) (.pair (.int .i64) .unit)) (.pair (.pair (.int .i64) (.pair (.int .i64) .unit)) (.pair .str (.pair (.pair (.int .i64) (.pair (.int .i64) .unit)) (.pair (.pair (.pair (.int .i64) (.pair (.int .i64) .unit)) (.pair (.int .i64) .unit)) (.pair (.pair (.pair (.int .i64) (.pair (.int .i64) .unit)) (.pair (.int .i64) .unit)) (.pair .str (.pair (.sl false (.pair (.pair (.int .i64) (.pair (.int .i64) .unit)) (.pair (.int .i64) (.pair (.int .i64) .unit)))) (.pair .bool .unit)))))))))))))], [(.t 2 false .bool), (.t 5 false (.int .i64))]⟩

def cut76000000_75_0 : Cut := ⟨[(.v 48 false (.sl false (.int .u8))), (.v 49 false (.int .i64))], [(.t 8 false (.int .i64)), (.t 50 false (.int .i64))]⟩

def cut8000000_7_0 : Cut := ⟨[(.v 3 true (.sl false (.pair (.int .i64) (.pair (.int .i64) .unit))))], [(.t 2 false .bool), (.t 4 false (.int .i64))]⟩

def cut8000000_7_2 : Cut := ⟨[(.v 3 true (.sl false (.pair (.int .i64) (.pair (.int .i64) .unit)))), (.v 4 false (.int .i64))], [(.t 2 false .bool), (.t 5 false (.int .i64))]⟩

def cut80000000_79_0 : Cut := ⟨[(.q 1 true (.pair (.int .i64) (.pair (.pair (.int .i64) (.pair (.int .i64) .unit)) (.pair (.int .i64) (.pair (.pair (.int .i64) (.pair (.int .i64) .unit)) (.pair (.pair (.int .i64) (.pair (.int .i64) .unit)) (.pair .str (.pair (.pair (.int .i64) (.pair (.int .i64) .unit)) (.pair (.pair (.pair (.int .i64) (.pair (.int .i64) .unit)) (.pair (.int .i64) .unit)) (.pair (.pair (.pair (.int .i64) (.pair (.int .i64) .unit)) (.pair (.int .i64) .unit)) (.pair .str (.pair (.sl false (.pair (.pair (.int .i64) (.pair (.int .i64) .unit)) (.pair (.int .i64) (.pair (.int .i64) .unit)))) (.pair .bool .unit)))))))))))))], [(.o 4 80020004 false (.int .u8)), (.t 5 false (.int .i64))]⟩

def cut80000000_79_1006 : Cut := ⟨[(.q 1 true (.pair (.int .i64) (.pair (.pair (.int .i64) (.pair (.int .i64) .unit)) (.pair (.int .i64) (.pair (.pair (.int .i64) (.pair (.int .i64) .unit)) (.pair (.pair (.int .i64) (.pair (.int .i64) .unit)) (.pair .str (.pair (.pair (.int .i64) (.pair (.int .i64) .unit)) (.pair (.pair (.pair (.int .i64) (.pair (.int .i64) .unit)) (.pair (.int .i64) .unit)) (.pair (.pair (.pair (.int .i64) (.pair (.int .i64) .unit)) (.pair (.int .i64) .unit)) (.pair .str (.pair (.sl false (.pair (.pair (.int .i64) (.pair (.int .i64) .unit)) (.pair (.int .i64) (.pair (.int .i64) .unit)))) (.pair .bool .unit))))))))))))), (.v 29 false .bool)], [(.o 4 80020004 false (.int .u8))]⟩

def cut80000000_79_1008 : Cut := ⟨[(.q 1 true (.pair (.int .i64) (.pair (.pair (.int .i64) (.pair (.int .i64) .unit)) (.pair (.int .i64) (.pair (.pair (.int .i64) (.pair (.int .i64) .unit)) (.pair (.pair (.int .i64) (.pair (.int .i64) .unit)) (.pair .str (.pair (.pair (.int .i64) (.pair (.int .i64) .unit)) (.pair (.pair (.pair (.int .i64) (.pair (.int .i64) .unit)) (.pair (.int .i64) .unit)) (.pair (.pair (.pair (.int .i64) (.pair (.int .i64) .unit)) (.pair (.int .i64) .unit)) (.pair .str (.pair (.sl false (.pair (.pair (.int .i64) (.pair (.int .i64) .unit)) (.pair (.int .i64) (.pair (.int .i64) .unit)))) (.pair .bool .unit))))))))))))), (.v 42 false .bool)], [(.o 4 80020004 false (.int .u8))]⟩

def cut80000000_79_1012 : Cut := ⟨[(.q 1 true (.pair (.int .i64) (.pair (.pair (.int .i64) (.pair (.int .i64) .unit)) (.pair (.int .i64) (.pair (.pair (.int .i64) (.pair (.int .i64) .unit)) (.pair (.pair (.int .i64) (.pair (.int .i64) .unit)) (.pair .str (.pair (.pair (.int .i64) (.pair (.int .i64) .unit)) (.pair (.pair (.pair (.int .i64) (.pair (.int .i64) .unit)) (.pair (.int .i64) .unit)) (.pair (.pair (.pair (.int .i64) (.pair (.int .i64) .unit)) (.pair (.int .i64) .unit)) (.pair .str (.pair (.sl false (.pair (.pair (.int .i64) (.pair (.int .i64) .unit)) (.pair (.int .i64) (.pair (.int .i64) .unit)))) (.pair .bool .unit))))))))))))), (.v 70 false .bool)], [(.o 4 80020004 false (.int .u8))]⟩

def cut80000000_79_1015 : Cut := ⟨[(.q 1 true (.pair (.int .i64) (.pair (.pair (.int .i64) (.pair (.int .i64) .unit)) (.pair (.int .i64) (.pair (.pair (.int .i64) (.pair (.int .i64) .unit)) (.pair (.pair (.int .i64) (.pair (.int .i64) .unit)) (.pair .str (.pair (.pair (.int .i64) (.pair (.int .i64) .unit)) (.pair (.pair (.pair (.int .i64) (.pair (.int .i64) .unit)) (.pair (.int .i64) .unit)) (.pair (.pair (.pair (.int .i64) (.pair (.int .i64) .unit)) (.pair (.int .i64) .unit)) (.pair .str (.pair (.sl false (.pair (.pair (.int .i64) (.pair (.int .i64) .unit)) (.pair (.int .i64) (.pair (.int .i64) .unit)))) (.pair .bool .unit))))))))))))), (.v 83 false .bool)], [(.o 4 80020004 false (.int .u8))]⟩

def cut80000000_79_1017 : Cut := ⟨[(.q 1 true (.pair (.int .i64) (.pair (.pair (.int .i64) (.pair (.int .i64) .unit)) (.pair (.int .i64) (.pair (.pair (.int .i64) (.pair (.int .i64) .unit)) (.pair (.pair (.int .i64) (.pair (.int .i64) .unit)) (.pair .str (.pair (.pair (.int .i64) (.pair (.int .i64) .unit)) (.pair (.pair (.pair (.int .i64) (.pair (.int .i64) .unit)) (.pair (.int .i64) .unit)) (.pair (.pair (.pair (.int .i64) (.pair (.int .i64) .unit)) (.pair (.int .i64) .unit)) (.pair .str (.pair (.sl false (.pair (.pair (.int .i64) (.pair (.int .i64) .unit)) (.pair (.int .i64) (.pair (.int .i64) .unit)))) (.pair .bool .unit))))))))))))), (.v 91 false .bool)], [(.o 4 80020004 false (.int .u8))]⟩

def cut80000000_79_1025 : Cut := ⟨[(.q 1 true (.pair (.int .i64) (.pair (.pair (.int .i64) (.pair (.int .i64) .unit)) (.pair (.int .i64) (.pair (.pair (.int .i64) (.pair (.int .i64) .unit)) (.pair (.pair (.int .i64) (.pair (.int .i64) .unit)) (.pair .str (.pair (.pair (.int .i64) (.pair (.int .i64) .unit)) (.pair (.pair (.pair (.int .i64) (.pair (.int .i64) .unit)) (.pair (.int .i64) .unit)) (.pair (.pair (.pair (.int .i64) (.pair (.int .i64) .unit)) (.pair (.int .i64) .unit)) (.pair .str (.pair (.sl false (.pair (.pair (.int .i64) (.pair (.int .i64) .unit)) (.pair (.int .i64) (.pair (.int .i64) .unit)))) (.pair .bool .unit))))))))))))), (.v 134 false .bool)], [(.o 4 80020004 false (.int .u8))]⟩

def cut80000000_79_1027 : Cut := ⟨[(.v 136 false .bool)], [(.t 6 false (.int .i64))]⟩

def cut81000000_80_0 : Cut := ⟨[(.v 0 false .str)], [(.o 3 81020003 false (.int .u8)), (.t 5 false (.int .i64))]⟩

def cut87000000_86_0 : Cut := ⟨[(.v 0 false (.int .i64)), (.v 4 false (.int .i64)), (.c 5 (.sf 87000016)), (.v 18 false (.int .i64))], [(.t 19 false (.int .i64)), (.a 87000016 false (.int .u8))]⟩

def cut96000000_95_0 : Cut := ⟨[(.v 0 true (.sl false (.pair (.int .i64) (.pair (.int .i64) .unit)))), (.q 3 true (.pair (.int .i64) (.pair (.int .i64) .unit))), (.v 7 false (.int .i64))], [(.t 4 false (.int .i64)), (.t 8 false (.int .i64))]⟩

def cut98000000_97_0 : Cut := ⟨[(.v 0 false (.int .i64))], [(.t 4 false (.int .i64)), (.t 5 false (.int .i64))]⟩

def cut98000000_97_2 : Cut := ⟨[(.c 6 (.sf 98000024))], [(.t 0 false (.int .i64)), (.t 7 false (.int .i64)), (.a 98000024 false (.int .u8))]⟩

def cut98000000_97_4 : Cut := ⟨[(.v 4 false (.int .i64))], [(.t 8 false (.int .i64)), (.t 9 false (.int .i64))]⟩

def annT : List (Nat × List (Nat × List (Nat × Cut))) := [(8000000, [(7, [(0, cut8000000_7_0), (2, cut8000000_7_2)])]),
   (26000000, [(25, [(0, cut26000000_25_0)])]),
   (27000000, [(26, [(0, cut27000000_26_0)])]),
   (28000000, [(27, [(0, cut28000000_27_0)])]),
   (29000000, [(28, [(0, cut29000000_28_0)])]),
   (30000000, [(29, [(0, cut30000000_29_0)])]),
   (32000000, [(31, [(0, cut32000000_31_0)])]),
   (34000000, [(33, [(0, cut34000000_33_0), (2, cut34000000_33_2)])]),
   (35000000, [(34, [(0, cut35000000_34_0)])]),
   (37000000, [(36, [(0, cut37000000_36_0), (1006, cut37000000_36_1006), (1008, cut37000000_36_1008), (1012, cut37000000_36_1012), (1015, cut37000000_36_1015), (1017, cut37000000_36_1017), (1026, cut37000000_36_1026)])]),
   (38000000, [(37, [(0, cut38000000_37_0)])]),
   (39000000, [(38, [(0, cut39000000_38_0)])]),
   (40000000, [(39, [(0, cut40000000_39_0)])]),
   (41000000, [(40, [(0, cut41000000_40_0)])]),
   (42000000, [(41, [(0, cut42000000_41_0)])]),
   (55000000, [(54, [(0, cut55000000_54_0)])]),
   (58000000, [(57, [(1, cut58000000_57_1)])]),
   (66000000, [(65, [(1, cut66000000_65_1)])]),
   (68000000, [(67, [(0, cut68000000_67_0)])]),
   (71000000, [(70, [(0, cut71000000_70_0), (2, cut71000000_70_2)])]),
   (75000000, [(74, [(0, cut75000000_74_0), (1, cut75000000_74_1)])]),
   (76000000, [(75, [(0, cut76000000_75_0)])]),
   (80000000, [(79, [(0, cut80000000_79_0), (1006, cut80000000_79_1006), (1008, cut80000000_79_1008), (1012, cut80000000_79_1012), (1015, cut80000000_79_1015), (1017, cut80000000_79_1017), (1025, cut80000000_79_1025), (1027, cut80000000_79_1027)])]),
   (81000000, [(80, [(0, cut81000000_80_0)])]),
   (87000000, [(86, [(0, cut87000000_86_0)])]),
   (96000000, [(95, [(0, cut96000000_95_0)])]),
   (98000000, [(97, [(0, cut98000000_97_0), (2, cut98000000_97_2), (4, cut98000000_97_4)])]),
   (61063008000000, [(114, [(0, cut61063008000000_114_0)])])]

noncomputable def E0 : Env := mkEnv Tryd.prog tyT tyF sigT inlT annT prim0 glob0 [(36, [1006, 1008, 1012, 1015, 1017, 1026]), (74, [0]), (79, [1006, 1008, 1012, 1015, 1017, 1025, 1027])]

noncomputable def codeOf (f id : Nat) : Code := match Tryd.prog.funcs[f]? with
  | some F => (match F.body with | some c => (findX id c).getD .skip | none => .skip)
  | none => .skip

noncomputable def rvOf (f : Nat) : List ResultVar := match Tryd.prog.funcs[f]? with
  | some F => F.results.toList
  | none => []

end Go.Proofs.YtkfikongenapfaaDoor.E

namespace Go.Proofs.YtkfikongenapfaaDoor.E
open Go
set_option linter.unusedVariables false
set_option maxRecDepth 100000
def tab_F_mathbitsLen8_0 : List UInt8 := ([0, 1, 2, 2, 3, 3, 3, 3, 4, 4, 4, 4, 4, 4, 4, 4, 5, 5, 5, 5, 5, 5, 5, 5, 5, 5, 5, 5, 5, 5, 5, 5, 6, 6, 6, 6, 6, 6, 6, 6, 6, 6, 6, 6, 6, 6, 6, 6, 6, 6, 6, 6, 6, 6, 6, 6, 6, 6, 6, 6, 6, 6, 6, 6, 7, 7, 7, 7, 7, 7, 7, 7, 7, 7, 7, 7, 7, 7, 7, 7, 7, 7, 7, 7, 7, 7, 7, 7, 7, 7, 7, 7, 7, 7, 7, 7, 7, 7, 7, 7, 7, 7, 7, 7, 7, 7, 7, 7, 7, 7, 7, 7, 7, 7, 7, 7, 7, 7, 7, 7, 7, 7, 7, 7, 7, 7, 7, 7, 8, 8, 8, 8, 8, 8, 8, 8, 8, 8, 8, 8, 8, 8, 8, 8, 8, 8, 8, 8, 8, 8, 8, 8, 8, 8, 8, 8, 8, 8, 8, 8, 8, 8, 8, 8, 8, 8, 8, 8, 8, 8, 8, 8, 8, 8, 8, 8, 8, 8, 8, 8, 8, 8, 8, 8, 8, 8, 8, 8, 8, 8, 8, 8, 8, 8, 8, 8, 8, 8, 8, 8, 8, 8, 8, 8, 8, 8, 8, 8, 8, 8, 8, 8, 8, 8, 8, 8, 8, 8, 8, 8, 8, 8, 8, 8, 8, 8, 8, 8, 8, 8, 8, 8, 8, 8, 8, 8, 8, 8, 8, 8, 8, 8, 8, 8, 8, 8, 8, 8, 8, 8, 8, 8, 8, 8, 8, 8] : List UInt8)

noncomputable def F_mathbitsLeadingZeros8 (k : Nat) (a0 : Int) : Option (((Int) × (Unit)) × (Unit)) := fnE E0 k 104 (a0, ())

noncomputable def F_mathbitsLen8 (k : Nat) (a0 : Int) : Option (((Int) × (Unit)) × (Unit)) := fnE E0 k 115 (a0, ())

noncomputable def F_mathbitsLen (k : Nat) (a0 : Int) : Option (((Int) × (Unit)) × (Unit)) := fnE E0 k 116 (a0, ())

noncomputable def F_mathbitsLen64 (k : Nat) (a0 : Int) : Option (((Int) × (Unit)) × (Unit)) := fnE E0 k 121 (a0, ())

noncomputable def F_numsize (k : Nat) (a0 : Int) : Option (((Int) × (Unit)) × (Unit)) := fnE E0 k 106 (a0, ())

noncomputable def F_numPut (k : Nat) (a0 : Int) : Option ((Cur) × (Unit)) := fnE E0 k 86 (a0, ())

noncomputable def F_numPutText (k : Nat) (a0 : List (UInt8)) : Option (((List (Int)) × (Unit)) × (Unit)) := fnE E0 k 107 (a0, ())

noncomputable def F_numCursorlose (k : Nat) (a0 : Cur) : Option ((Unit) × ((Cur) × (Unit))) := fnE E0 k 103 (a0, ())

noncomputable def F_numCursortake (k : Nat) (a0 : Cur) (a1 : Int) : Option ((Cur) × ((Cur) × (Unit))) := fnE E0 k 105 (a0, a1, ())

noncomputable def F_numAt (k : Nat) (a0 : List (Int)) : Option (((Cur) × (Unit)) × (Unit)) := fnE E0 k 62 (a0, ())

noncomputable def F_numCursorEnd (k : Nat) (a0 : Cur) : Option (((Bool) × (Unit)) × (Unit)) := fnE E0 k 66 (a0, ())

noncomputable def F_slicesClonebyte (k : Nat) (a0 : List (Int)) : Option (((List (Int)) × (Unit)) × (Unit)) := fnE E0 k 92 (a0, ())

noncomputable def F_numCursorNum (k : Nat) (a0 : Cur) (a1 : Int) : Option (((Int) × (Unit)) × ((Cur) × (Unit))) := fnE E0 k 75 (a0, a1, ())

noncomputable def F_numCursorText (k : Nat) (a0 : Cur) (a1 : Int) : Option (((List (UInt8)) × (Unit)) × ((Cur) × (Unit))) := fnE E0 k 76 (a0, a1, ())

noncomputable def F_ref00SameBytes (k : Nat) (a0 : List (Int)) (a1 : List (Int)) : Option (((Bool) × (Unit)) × (Unit)) := fnE E0 k 31 (a0, a1, ())

noncomputable def F_ref01Put (k : Nat) (a0 : Int) : Option ((Cur) × (Unit)) := fnE E0 k 97 (a0, ())

noncomputable def F_ref01PutText (k : Nat) (a0 : List (UInt8)) : Option (((List (Int)) × (Unit)) × (Unit)) := fnE E0 k 80 (a0, ())

theorem F_mathbitsLeadingZeros8_step (k : Nat) (a0 : Int) : F_mathbitsLeadingZeros8 (k + 1) a0 =
  (bd (F_mathbitsLen8 k a0) (fun (r : ((Int) × (Unit)) × (Unit)) => (some (((IntKind.wrap (IntKind.i64) ((8 : Int) - r.1.1)), ()), ())))) := by kernel_rfl

theorem F_mathbitsLen8_step (k : Nat) (a0 : Int) : F_mathbitsLen8 (k + 1) a0 =
  (br (inB a0 (256 : Nat))
   (some (((IntKind.wrap (IntKind.i64) (((UInt8.toNat (List.getD tab_F_mathbitsLen8_0 (Int.toNat a0) (0 : UInt8))) : Nat) : Int)), ()), ()))
   none) := by kernel_rfl

theorem F_mathbitsLen_step (k : Nat) (a0 : Int) : F_mathbitsLen (k + 1) a0 =
  (bd (F_mathbitsLen64 k a0) (fun (r : ((Int) × (Unit)) × (Unit)) => (some ((r.1.1, ()), ())))) := by kernel_rfl

theorem F_mathbitsLen64_step (k : Nat) (a0 : Int) : F_mathbitsLen64 (k + 1) a0 =
  (br (decide (a0 ≥ (4294967296 : Int)))
   (br (decide ((Int.fdiv a0 (4294967296 : Int)) ≥ (65536 : Int)))
    (br (decide ((Int.fdiv (Int.fdiv a0 (4294967296 : Int)) (65536 : Int)) ≥ (256 : Int)))
     (br (inB (IntKind.wrap (IntKind.u8) (Int.fdiv (Int.fdiv (Int.fdiv a0 (4294967296 : Int)) (65536 : Int)) (256 : Int))) (256 : Nat))
      (some (((IntKind.wrap (IntKind.i64) ((56 : Int) + (IntKind.wrap (IntKind.i64) (((UInt8.toNat (List.getD tab_F_mathbitsLen8_0 (Int.toNat (IntKind.wrap (IntKind.u8) (Int.fdiv (Int.fdiv (Int.fdiv a0 (4294967296 : Int)) (65536 : Int)) (256 : Int)))) (0 : UInt8))) : Nat) : Int)))), ()), ()))
      none)
     (br (inB (IntKind.wrap (IntKind.u8) (Int.fdiv (Int.fdiv a0 (4294967296 : Int)) (65536 : Int))) (256 : Nat))
      (some (((IntKind.wrap (IntKind.i64) ((48 : Int) + (IntKind.wrap (IntKind.i64) (((UInt8.toNat (List.getD tab_F_mathbitsLen8_0 (Int.toNat (IntKind.wrap (IntKind.u8) (Int.fdiv (Int.fdiv a0 (4294967296 : Int)) (65536 : Int)))) (0 : UInt8))) : Nat) : Int)))), ()), ()))
      none))
    (br (decide ((Int.fdiv a0 (4294967296 : Int)) ≥ (256 : Int)))
     (br (inB (IntKind.wrap (IntKind.u8) (Int.fdiv (Int.fdiv a0 (4294967296 : Int)) (256 : Int))) (256 : Nat))
      (some (((IntKind.wrap (IntKind.i64) ((40 : Int) + (IntKind.wrap (IntKind.i64) (((UInt8.toNat (List.getD tab_F_mathbitsLen8_0 (Int.toNat (IntKind.wrap (IntKind.u8) (Int.fdiv (Int.fdiv a0 (4294967296 : Int)) (256 : Int)))) (0 : UInt8))) : Nat) : Int)))), ()), ()))
      none)
     (br (inB (IntKind.wrap (IntKind.u8) (Int.fdiv a0 (4294967296 : Int))) (256 : Nat))
      (some (((IntKind.wrap (IntKind.i64) ((32 : Int) + (IntKind.wrap (IntKind.i64) (((UInt8.toNat (List.getD tab_F_mathbitsLen8_0 (Int.toNat (IntKind.wrap (IntKind.u8) (Int.fdiv a0 (4294967296 : Int)))) (0 : UInt8))) : Nat) : Int)))), ()), ()))
      none)))
   (br (decide (a0 ≥ (65536 : Int)))
    (br (decide ((Int.fdiv a0 (65536 : Int)) ≥ (256 : Int)))
     (br (inB (IntKind.wrap (IntKind.u8) (Int.fdiv (Int.fdiv a0 (65536 : Int)) (256 : Int))) (256 : Nat))
      (some (((IntKind.wrap (IntKind.i64) ((24 : Int) + (IntKind.wrap (IntKind.i64) (((UInt8.toNat (List.getD tab_F_mathbitsLen8_0 (Int.toNat (IntKind.wrap (IntKind.u8) (Int.fdiv (Int.fdiv a0 (65536 : Int)) (256 : Int)))) (0 : UInt8))) : Nat) : Int)))), ()), ()))
      none)
     (br (inB (IntKind.wrap (IntKind.u8) (Int.fdiv a0 (65536 : Int))) (256 : Nat))
      (some (((IntKind.wrap (IntKind.i64) ((16 : Int) + (IntKind.wrap (IntKind.i64) (((UInt8.toNat (List.getD tab_F_mathbitsLen8_0 (Int.toNat (IntKind.wrap (IntKind.u8) (Int.fdiv a0 (65536 : Int)))) (0 : UInt8))) : Nat) : Int)))), ()), ()))
      none))
    (br (decide (a0 ≥ (256 : Int)))
     (br (inB (IntKind.wrap (IntKind.u8) (Int.fdiv a0 (256 : Int))) (256 : Nat))
      (some (((IntKind.wrap (IntKind.i64) ((8 : Int) + (IntKind.wrap (IntKind.i64) (((UInt8.toNat (List.getD tab_F_mathbitsLen8_0 (Int.toNat (IntKind.wrap (IntKind.u8) (Int.fdiv a0 (256 : Int)))) (0 : UInt8))) : Nat) : Int)))), ()), ()))
      none)
     (br (inB (IntKind.wrap (IntKind.u8) a0) (256 : Nat))
      (some (((IntKind.wrap (IntKind.i64) ((0 : Int) + (IntKind.wrap (IntKind.i64) (((UInt8.toNat (List.getD tab_F_mathbitsLen8_0 (Int.toNat (IntKind.wrap (IntKind.u8) a0)) (0 : UInt8))) : Nat) : Int)))), ()), ()))
      none)))) := by kernel_rfl

theorem F_numsize_step (k : Nat) (a0 : Int) : F_numsize (k + 1) a0 =
  (bd (F_mathbitsLen k (IntKind.wrap (IntKind.u64) a0)) (fun (r : ((Int) × (Unit)) × (Unit)) => (some (((if ((IntKind.wrap (IntKind.i64) (Int.tdiv (IntKind.wrap (IntKind.i64) ((IntKind.wrap (IntKind.i64) (r.1.1 + (7 : Int))) - (1 : Int))) (7 : Int))) > (1 : Int)) then (IntKind.wrap (IntKind.i64) (Int.tdiv (IntKind.wrap (IntKind.i64) ((IntKind.wrap (IntKind.i64) (r.1.1 + (7 : Int))) - (1 : Int))) (7 : Int))) else (1 : Int)), ()), ())))) := by kernel_rfl

noncomputable def L_numPut_0 (k : Nat) (s0 : Int) (s1 : Int) (s2 : Unit) (s3 : Int) : Nat → (Int) × ((List (Int)) × (Unit)) → Option (LO (Cur) ((Int) × ((List (Int)) × (Unit))) (Unit)) :=
  loopF true 0 44 87000000 86 cut87000000_86_0 (s0, s1, s2, s3, ()) (fun σ K => bodyAt E0 (fnE E0 k) (inl5 E0 (fnE E0 k) k) 86 (rvOf 86) k (codeOf 86 0) _ σ K)

theorem L_numPut_0_step (k m : Nat) (s0 : Int) (s1 : Int) (s2 : Unit) (s3 : Int) (x0 : Int) (x1 : List (Int)) : L_numPut_0 k s0 s1 s2 s3 (m + 1) (x0, x1, ()) =
  (br (decide (x0 < s3))
   (br (decide ((0 : Int) ≤ (IntKind.wrap (IntKind.i64) ((8 : Int) * x0))))
    (br (inB (IntKind.wrap (IntKind.i64) ((IntKind.wrap (IntKind.i64) (s1 - (1 : Int))) - x0)) (List.length x1))
     (L_numPut_0 k s0 s1 s2 s3 m ((IntKind.wrap (IntKind.i64) (x0 + (1 : Int))), ((List.set x1 (Int.toNat (IntKind.wrap (IntKind.i64) ((IntKind.wrap (IntKind.i64) (s1 - (1 : Int))) - x0))) (IntKind.wrap (IntKind.u8) (Int.fdiv s0 ((2 : Int) ^ (Min.min (Int.toNat (IntKind.wrap (IntKind.i64) ((8 : Int) * x0))) (64 : Nat)))))), ())))
     none)
    none)
   (some (.brk (x0, (x1, ()))))) := by kernel_rfl

theorem F_numPut_step (k : Nat) (a0 : Int) : F_numPut (k + 1) a0 =
  (br (cond (decide (a0 < (0 : Int))) true (decide (a0 > (562949953421311 : Int))))
   (some ((([] : List (Int)), (false, ())), ()))
   (bd (F_numsize k a0) (fun (r : ((Int) × (Unit)) × (Unit)) => (br (makeB r.1.1 r.1.1 (1 : Nat))
     (bdL (L_numPut_0 k a0 r.1.1 () (((List.length (List.replicate (Int.toNat r.1.1) (0 : Int))) : Nat) : Int) k ((0 : Int), ((List.replicate (Int.toNat r.1.1) (0 : Int)), ())))
      (fun (b : (Int) × ((List (Int)) × (Unit))) => (br (inB (0 : Int) (List.length b.2.1))
       (br (decide ((0 : Int) ≤ (IntKind.wrap (IntKind.i64) (r.1.1 - (1 : Int)))))
        (br (inB (0 : Int) (List.length b.2.1))
         (some (((List.set b.2.1 (0 : Nat) (IntKind.wrap (IntKind.u8) (((BitVec.toNat ((BitVec.ofInt (8 : Nat) (List.getD b.2.1 (0 : Nat) (0 : Int))) ||| (BitVec.ofInt (8 : Nat) (IntKind.wrap (IntKind.u8) (((BitVec.toNat ((BitVec.ofInt (8 : Nat) (255 : Int)) ^^^ (BitVec.ofInt (8 : Nat) (Int.fdiv (255 : Int) ((2 : Int) ^ (Min.min (Int.toNat (IntKind.wrap (IntKind.i64) (r.1.1 - (1 : Int)))) (8 : Nat))))))) : Nat) : Int))))) : Nat) : Int))), (true, ())), ()))
         none)
        none)
       none))
      (fun (j : Nat) => (fun (b : (Int) × ((List (Int)) × (Unit))) => none))
      (fun (q : Cur) => (fun (b : Unit) => (some (q, ())))))
     none)))) := by kernel_rfl

theorem F_numPutText_step (k : Nat) (a0 : List (UInt8)) : F_numPutText (k + 1) a0 =
  (bd (F_numPut k (((List.length a0) : Nat) : Int)) (fun (r : (Cur) × (Unit)) => (br (decide ((((List.length r.1.1) + (List.length (List.map (fun (c : UInt8) => (((UInt8.toNat c) : Nat) : Int)) a0))) * (1 : Nat)) ≤ (140737488355328 : Nat)))
    (some (((r.1.1 ++ (List.map (fun (c : UInt8) => (((UInt8.toNat c) : Nat) : Int)) a0)), ()), ()))
    none))) := by kernel_rfl

theorem F_numCursorlose_step (k : Nat) (a0 : Cur) : F_numCursorlose (k + 1) a0 =
  (some ((), ((([] : List (Int)), (true, a0.2.2)), ()))) := by kernel_rfl

theorem F_numCursortake_step (k : Nat) (a0 : Cur) (a1 : Int) : F_numCursortake (k + 1) a0 a1 =
  (br (cond a0.2.1 true (decide (a1 < (0 : Int))))
   (bd (F_numCursorlose k a0) (fun (r : (Unit) × ((Cur) × (Unit))) => (some ((([] : List (Int)), (false, ())), (r.2.1, ())))))
   (br (cond false true (decide (a1 > (((List.length a0.1) : Nat) : Int))))
    (bd (F_numCursorlose k a0) (fun (r : (Unit) × ((Cur) × (Unit))) => (some ((([] : List (Int)), (false, ())), (r.2.1, ())))))
    (br (((leB a1 (List.length a0.1)) && (leB a1 (Int.toNat a1))) && true)
     (br (true && (leB a1 (List.length a0.1)))
      (some (((List.take (Int.toNat a1) a0.1), (true, ())), (((List.drop (Int.toNat a1) a0.1), a0.2), ())))
      none)
     none))) := by kernel_rfl

theorem F_numAt_step (k : Nat) (a0 : List (Int)) : F_numAt (k + 1) a0 =
  (bd (F_slicesClonebyte k a0) (fun (r : ((List (Int)) × (Unit)) × (Unit)) => (some (((r.1.1, (false, ())), ()), ())))) := by kernel_rfl

theorem F_numCursorEnd_step (k : Nat) (a0 : Cur) : F_numCursorEnd (k + 1) a0 =
  (br (!a0.2.1)
   (some (((cond true ((((List.length a0.1) : Nat) : Int) == (0 : Int)) false), ()), ()))
   (some ((false, ()), ()))) := by kernel_rfl

theorem F_slicesClonebyte_step (k : Nat) (a0 : List (Int)) : F_slicesClonebyte (k + 1) a0 =
  (bthN (List.length a0)
   (some ((([] : List (Int)), ()), ()))
   (br (decide ((((0 : Nat) + (List.length a0)) * (1 : Nat)) ≤ (140737488355328 : Nat)))
    (some ((a0, ()), ()))
    none)) := by kernel_rfl

noncomputable def L_numCursorNum_0 (k : Nat) (s0 : List (Int)) (s1 : Int) : Nat → TId → Option (LO ((Int) × (Unit)) (TId) (Unit)) :=
  loopF true 0 72 76000000 75 cut76000000_75_0 (s0, s1, ()) (fun σ K => bodyAt E0 (fnE E0 k) (inl5 E0 (fnE E0 k) k) 75 (rvOf 75) k (codeOf 75 0) _ σ K)

theorem L_numCursorNum_0_step (k m : Nat) (s0 : List (Int)) (s1 : Int) (x0 : Int) (x1 : Int) : L_numCursorNum_0 k s0 s1 (m + 1) (x0, x1, ()) =
  (br (decide (x1 < s1))
   (br (inB x1 (List.length s0))
    (L_numCursorNum_0 k s0 s1 m ((IntKind.wrap (IntKind.i64) (((BitVec.toNat ((BitVec.ofInt (64 : Nat) (IntKind.wrap (IntKind.i64) (x0 * (256 : Int)))) ||| (BitVec.ofInt (64 : Nat) (IntKind.wrap (IntKind.i64) (List.getD s0 (Int.toNat x1) (0 : Int)))))) : Nat) : Int)), ((IntKind.wrap (IntKind.i64) (x1 + (1 : Int))), ())))
    none)
   (some (.brk (x0, (x1, ()))))) := by kernel_rfl

theorem F_numCursorNum_step (k : Nat) (a0 : Cur) (a1 : Int) : F_numCursorNum (k + 1) a0 a1 =
  (br ((((List.length a0.1) : Nat) : Int) == (0 : Int))
   (bd (F_numCursorlose k a0) (fun (r : (Unit) × ((Cur) × (Unit))) => (some (((0 : Int), ()), (r.2.1, ())))))
   (br (inB (0 : Int) (List.length a0.1))
    (bd (F_mathbitsLeadingZeros8 k (IntKind.wrap (IntKind.u8) (((BitVec.toNat ((BitVec.ofInt (8 : Nat) (255 : Int)) ^^^ (BitVec.ofInt (8 : Nat) (List.getD a0.1 (0 : Nat) (0 : Int))))) : Nat) : Int))) (fun (r : ((Int) × (Unit)) × (Unit)) => (br (decide ((IntKind.wrap (IntKind.i64) ((1 : Int) + r.1.1)) > (7 : Int)))
      (bd (F_numCursorlose k a0) (fun (r1 : (Unit) × ((Cur) × (Unit))) => (some (((0 : Int), ()), (r1.2.1, ())))))
      (bd (F_numCursortake k a0 (IntKind.wrap (IntKind.i64) ((1 : Int) + r.1.1))) (fun (r1 : (Cur) × ((Cur) × (Unit))) => (br (!r1.1.2.1)
        (some (((0 : Int), ()), (r1.2.1, ())))
        (br (inB (0 : Int) (List.length r1.1.1))
         (br (decide ((0 : Int) ≤ (IntKind.wrap (IntKind.i64) ((1 : Int) + r.1.1))))
          (br (true && (leB (1 : Int) (List.length r1.1.1)))
           (bdL (L_numCursorNum_0 k (List.drop (1 : Nat) r1.1.1) (((List.length (List.drop (1 : Nat) r1.1.1)) : Nat) : Int) k ((IntKind.wrap (IntKind.i64) (IntKind.wrap (IntKind.u8) (((BitVec.toNat ((BitVec.ofInt (8 : Nat) (List.getD r1.1.1 (0 : Nat) (0 : Int))) &&& (BitVec.ofInt (8 : Nat) (Int.fdiv (255 : Int) ((2 : Int) ^ (Min.min (Int.toNat (IntKind.wrap (IntKind.i64) ((1 : Int) + r.1.1))) (8 : Nat))))))) : Nat) : Int))), ((0 : Int), ())))
            (fun (b : TId) => (bd (F_numsize k b.1) (fun (r2 : ((Int) × (Unit)) × (Unit)) => (br (cond (r2.1.1 != (IntKind.wrap (IntKind.i64) ((1 : Int) + r.1.1))) true (decide (b.1 > a1)))
              (bd (F_numCursorlose k r1.2.1) (fun (r3 : (Unit) × ((Cur) × (Unit))) => (some (((0 : Int), ()), (r3.2.1, ())))))
              (some ((b.1, ()), (r1.2.1, ())))))))
            (fun (j : Nat) => (fun (b : TId) => none))
            (fun (q : (Int) × (Unit)) => (fun (b : Unit) => (some (q, (r1.2.1, ()))))))
           none)
          none)
         none)))))))
    none)) := by kernel_rfl

theorem F_numCursorText_step (k : Nat) (a0 : Cur) (a1 : Int) : F_numCursorText (k + 1) a0 a1 =
  (bd (F_numCursorNum k a0 a1) (fun (r : ((Int) × (Unit)) × ((Cur) × (Unit))) => (bd (F_numCursortake k r.2.1 r.1.1) (fun (r1 : (Cur) × ((Cur) × (Unit))) => (some (((List.map (fun (n : Int) => (UInt8.ofNat (Int.toNat n))) r1.1.1), ()), (r1.2.1, ()))))))) := by kernel_rfl

noncomputable def L_ref00SameBytes_0 (k : Nat) (s0 : List (Int)) (s1 : List (Int)) : Nat → (Bool) × ((Int) × (Unit)) → Option (LO ((Bool) × (Unit)) ((Bool) × ((Int) × (Unit))) (Unit)) :=
  loopF true 0 26 32000000 31 cut32000000_31_0 (s0, s1, ()) (fun σ K => bodyAt E0 (fnE E0 k) (inl5 E0 (fnE E0 k) k) 31 (rvOf 31) k (codeOf 31 0) _ σ K)

theorem L_ref00SameBytes_0_step (k m : Nat) (s0 : List (Int)) (s1 : List (Int)) (x0 : Bool) (x1 : Int) : L_ref00SameBytes_0 k s0 s1 (m + 1) (x0, x1, ()) =
  (br (decide (x1 < (((List.length s0) : Nat) : Int)))
   (br (inB x1 (List.length s0))
    (br (inB x1 (List.length s1))
     (br ((List.getD s0 (Int.toNat x1) (0 : Int)) != (List.getD s1 (Int.toNat x1) (0 : Int)))
       (some (.ret (false, ()) ()))
       (L_ref00SameBytes_0 k s0 s1 m (x0, ((IntKind.wrap (IntKind.i64) (x1 + (1 : Int))), ()))))
     none)
    none)
   (some (.brk (x0, (x1, ()))))) :=
 (show L_ref00SameBytes_0 k s0 s1 (m + 1) (x0, x1, ()) =
  (br (decide (x1 < (((List.length s0) : Nat) : Int)))
   (br (inB x1 (List.length s0))
    (br (inB x1 (List.length s1))
     (both
      (br ((List.getD s0 (Int.toNat x1) (0 : Int)) != (List.getD s1 (Int.toNat x1) (0 : Int)))
       (some (.ret (false, ()) ()))
       (L_ref00SameBytes_0 k s0 s1 m (x0, ((IntKind.wrap (IntKind.i64) (x1 + (1 : Int))), ()))))
      (br ((List.getD s0 (Int.toNat x1) (0 : Int)) != (List.getD s1 (Int.toNat x1) (0 : Int)))
       (some (.ret (false, ()) ()))
       (L_ref00SameBytes_0 k s0 s1 m (x0, ((IntKind.wrap (IntKind.i64) (x1 + (1 : Int))), ())))))
     none)
    none)
   (some (.brk (x0, (x1, ()))))) by kernel_rfl).trans (by simp only [both_self])

theorem F_ref00SameBytes_step (k : Nat) (a0 : List (Int)) (a1 : List (Int)) : F_ref00SameBytes (k + 1) a0 a1 =
  (br ((((List.length a0) : Nat) : Int) != (((List.length a1) : Nat) : Int))
   (some ((false, ()), ()))
   (bdL (L_ref00SameBytes_0 k a0 a1 k (false, ((0 : Int), ())))
    (fun (b : (Bool) × ((Int) × (Unit))) => (some ((true, ()), ())))
    (fun (j : Nat) => (fun (b : (Bool) × ((Int) × (Unit))) => none))
    (fun (q : (Bool) × (Unit)) => (fun (b : Unit) => (some (q, ())))))) := by kernel_rfl

noncomputable def L_ref01Put_0 (k : Nat) (s0 : Int) : Nat → TId → Option (LO (Cur) (TId) (Unit)) :=
  loopF true 0 58 98000000 97 cut98000000_97_0 (s0, ()) (fun σ K => bodyAt E0 (fnE E0 k) (inl5 E0 (fnE E0 k) k) 97 (rvOf 97) k (codeOf 97 0) _ σ K)

noncomputable def L_ref01Put_2 (k : Nat) (s0 : Unit) : Nat → (Int) × ((Int) × ((List (Int)) × (Unit))) → Option (LO (Cur) ((Int) × ((Int) × ((List (Int)) × (Unit)))) (Unit)) :=
  loopF true 2 58 98000000 97 cut98000000_97_2 (s0, ()) (fun σ K => bodyAt E0 (fnE E0 k) (inl5 E0 (fnE E0 k) k) 97 (rvOf 97) k (codeOf 97 2) _ σ K)

noncomputable def L_ref01Put_4 (k : Nat) (s0 : Int) : Nat → TId → Option (LO (Cur) (TId) (Unit)) :=
  loopF true 4 58 98000000 97 cut98000000_97_4 (s0, ()) (fun σ K => bodyAt E0 (fnE E0 k) (inl5 E0 (fnE E0 k) k) 97 (rvOf 97) k (codeOf 97 4) _ σ K)

theorem L_ref01Put_0_step (k m : Nat) (s0 : Int) (x0 : Int) (x1 : Int) : L_ref01Put_0 k s0 (m + 1) (x0, x1, ()) =
  (br (decide (s0 ≥ x1))
   (L_ref01Put_0 k s0 m ((IntKind.wrap (IntKind.i64) (x0 + (1 : Int))), ((IntKind.wrap (IntKind.i64) (x1 * (128 : Int))), ())))
   (some (.brk (x0, (x1, ()))))) := by kernel_rfl

theorem L_ref01Put_2_step (k m : Nat) (s0 : Unit) (x0 : Int) (x1 : Int) (x2 : List (Int)) : L_ref01Put_2 k s0 (m + 1) (x0, x1, x2, ()) =
  (br (decide (x1 ≥ (0 : Int)))
   (br (inB x1 (List.length x2))
    (L_ref01Put_2 k s0 m ((IntKind.wrap (IntKind.i64) (Int.tdiv x0 (256 : Int))), ((IntKind.wrap (IntKind.i64) (x1 - (1 : Int))), ((List.set x2 (Int.toNat x1) (IntKind.wrap (IntKind.u8) (Int.tmod x0 (256 : Int)))), ()))))
    none)
   (some (.brk (x0, (x1, (x2, ())))))) := by kernel_rfl

theorem L_ref01Put_4_step (k m : Nat) (s0 : Int) (x0 : Int) (x1 : Int) : L_ref01Put_4 k s0 (m + 1) (x0, x1, ()) =
  (br (decide (x1 < (IntKind.wrap (IntKind.i64) (s0 - (1 : Int)))))
   (br (decide ((0 : Int) ≤ (IntKind.wrap (IntKind.u64) x1)))
    (L_ref01Put_4 k s0 m ((IntKind.wrap (IntKind.i64) (x0 + (Int.fdiv (128 : Int) ((2 : Int) ^ (Min.min (Int.toNat (IntKind.wrap (IntKind.u64) x1)) (64 : Nat)))))), ((IntKind.wrap (IntKind.i64) (x1 + (1 : Int))), ())))
    none)
   (some (.brk (x0, (x1, ()))))) := by kernel_rfl

theorem F_ref01Put_step (k : Nat) (a0 : Int) : F_ref01Put (k + 1) a0 =
  (br (cond (decide (a0 < (0 : Int))) true (decide (a0 > (562949953421311 : Int))))
   (some ((([] : List (Int)), (false, ())), ()))
   (bdL (L_ref01Put_0 k a0 k ((1 : Int), ((128 : Int), ())))
    (fun (b : TId) => (br (makeB b.1 b.1 (1 : Nat))
     (bdL (L_ref01Put_2 k () k (a0, ((IntKind.wrap (IntKind.i64) (b.1 - (1 : Int))), ((List.replicate (Int.toNat b.1) (0 : Int)), ()))))
      (fun (b1 : (Int) × ((Int) × ((List (Int)) × (Unit)))) => (bdL (L_ref01Put_4 k b.1 k ((0 : Int), ((0 : Int), ())))
       (fun (b2 : TId) => (br (inB (0 : Int) (List.length b1.2.2.1))
        (br (inB (0 : Int) (List.length b1.2.2.1))
         (some (((List.set b1.2.2.1 (0 : Nat) (IntKind.wrap (IntKind.u8) ((List.getD b1.2.2.1 (0 : Nat) (0 : Int)) + (IntKind.wrap (IntKind.u8) b2.1)))), (true, ())), ()))
         none)
        none))
       (fun (j : Nat) => (fun (b2 : TId) => none))
       (fun (q : Cur) => (fun (b2 : Unit) => (some (q, ()))))))
      (fun (j : Nat) => (fun (b1 : (Int) × ((Int) × ((List (Int)) × (Unit)))) => none))
      (fun (q : Cur) => (fun (b1 : Unit) => (some (q, ())))))
     none))
    (fun (j : Nat) => (fun (b : TId) => none))
    (fun (q : Cur) => (fun (b : Unit) => (some (q, ())))))) := by kernel_rfl

noncomputable def L_ref01PutText_0 (k : Nat) (s0 : List (UInt8)) : Nat → (List (Int)) × ((Int) × (Unit)) → Option (LO ((List (Int)) × (Unit)) ((List (Int)) × ((Int) × (Unit))) (Unit)) :=
  loopF true 0 25 81000000 80 cut81000000_80_0 (s0, ()) (fun σ K => bodyAt E0 (fnE E0 k) (inl5 E0 (fnE E0 k) k) 80 (rvOf 80) k (codeOf 80 0) _ σ K)

theorem L_ref01PutText_0_step (k m : Nat) (s0 : List (UInt8)) (x0 : List (Int)) (x1 : Int) : L_ref01PutText_0 k s0 (m + 1) (x0, x1, ()) =
  (br (decide (x1 < (((List.length s0) : Nat) : Int)))
   (br (inB x1 (List.length s0))
    (br (decide ((((List.length x0) + (List.length ((((UInt8.toNat (List.getD s0 (Int.toNat x1) (0 : UInt8))) : Nat) : Int) :: ([] : List (Int))))) * (1 : Nat)) ≤ (140737488355328 : Nat)))
     (L_ref01PutText_0 k s0 m ((x0 ++ ((((UInt8.toNat (List.getD s0 (Int.toNat x1) (0 : UInt8))) : Nat) : Int) :: ([] : List (Int)))), ((IntKind.wrap (IntKind.i64) (x1 + (1 : Int))), ())))
     none)
    none)
   (some (.brk (x0, (x1, ()))))) := by kernel_rfl

theorem F_ref01PutText_step (k : Nat) (a0 : List (UInt8)) : F_ref01PutText (k + 1) a0 =
  (bd (F_ref01Put k (((List.length a0) : Nat) : Int)) (fun (r : (Cur) × (Unit)) => (bdL (L_ref01PutText_0 k a0 k (r.1.1, ((0 : Int), ())))
    (fun (b : (List (Int)) × ((Int) × (Unit))) => (some ((b.1, ()), ())))
    (fun (j : Nat) => (fun (b : (List (Int)) × ((Int) × (Unit))) => none))
    (fun (q : (List (Int)) × (Unit)) => (fun (b : Unit) => (some (q, ()))))))) := by kernel_rfl

end Go.Proofs.YtkfikongenapfaaDoor.E

namespace Go.Proofs.YtkfikongenapfaaDoor.E
open Go
set_option linter.unusedSimpArgs false
set_option linter.unusedVariables false
/-! reading the forms -/
theorem br_t {R : Type} {c : Bool} {a b : Option R} (h : c = true) : br c a b = a := by rw [h]; rfl

theorem br_f {R : Type} {c : Bool} {a b : Option R} (h : c = false) : br c a b = b := by rw [h]; rfl

@[simp] theorem br_true {R : Type} {a b : Option R} : br true a b = a := rfl
@[simp] theorem br_false {R : Type} {a b : Option R} : br false a b = b := rfl
@[simp] theorem bd_s {A R : Type} {x : A} {f : A → Option R} : bd (some x) f = f x := rfl
@[simp] theorem bdL_b {Q X B R : Type} {b : X} {f : X → Option R} {g : Nat → X → Option R} {h : Q → B → Option R} : bdL (some (LO.brk b)) f g h = f b := rfl
@[simp] theorem bdL_r {Q X B R : Type} {q : Q} {b : B} {f : X → Option R} {g : Nat → X → Option R} {h : Q → B → Option R} : bdL (some (LO.ret q b)) f g h = h q b := rfl
theorem both_same {R : Type} {A : Option R} : both A A = A := by unfold both; rw [if_pos rfl]

theorem bthN_same {R : Type} {n : Nat} {A : Option R} : bthN n A A = A := by cases n with | zero => exact both_same | succ => rfl

theorem inB_t {i : Int} {n : Nat} (h : 0 ≤ i ∧ i < n) : inB i n = true := inB_iff.2 h

theorem leB_t {i : Int} {n : Nat} (h : 0 ≤ i ∧ i ≤ n) : leB i n = true := leB_iff.2 h

theorem makeB_t {n c : Int} {b : Nat} (h : 0 ≤ n ∧ n ≤ c ∧ c * b ≤ 140737488355328) : makeB n c b = true := makeB_iff.2 h

/-- bytes -/
def Byt (l : List Int) : Prop := ∀ x ∈ l, 0 ≤ x ∧ x ≤ 255

theorem getD_drop (l : List Int) (i : Nat) (h : i < l.length) : l.drop i = l.getD i 0 :: l.drop (i + 1) := by
  rw [List.drop_eq_getElem_cons h]; simp [List.getD, h]

theorem L_ref00SameBytes_0_eq (k : Nat) (a b : List Int) (hl : a.length = b.length) (hb : (a.length : Int) ≤ 9223372036854775806) : ∀ (m i : Nat) (x0 : Bool), i ≤ a.length → a.length - i < m →
    L_ref00SameBytes_0 k a b m (x0, ((i : Int), ())) = if a.drop i = b.drop i then some (.brk (x0, ((a.length : Int), ()))) else some (.ret (false, ()) ())
  | 0, i, x0, h1, h2 => by omega
  | m + 1, i, x0, h1, h2 => by
    rw [L_ref00SameBytes_0_step]
    by_cases h : i < a.length
    · rw [br_t (by simpa using h), br_t (inB_t ⟨by omega, by simpa using h⟩), br_t (inB_t ⟨by omega, by omega⟩)]
      have hb' : i < b.length := by omega
      rw [getD_drop a i h, getD_drop b i hb']
      simp only [Int.toNat_natCast]
      by_cases he : a.getD i 0 = b.getD i 0
      · rw [br_f (by rw [he]; simp), IntWalk.i64_in _ ⟨by omega, by omega⟩]
        have := L_ref00SameBytes_0_eq k a b hl hb m (i + 1) x0 (by omega) (by omega)
        rw [show ((i : Int) + 1) = ((i + 1 : Nat) : Int) by omega, this, he]
        simp only [List.cons.injEq, true_and]
      · rw [br_t (by simp only [bne_iff_ne, ne_eq]; exact he), if_neg (by simp only [List.cons.injEq, not_and]; exact fun h => (he h).elim)]
    · have : i = a.length := by omega
      subst this
      rw [br_f (by simp), if_pos (by rw [List.drop_length, hl, List.drop_length])]

theorem F_ref00SameBytes_eq (k : Nat) (a b : List Int) (hk : a.length < k) (hb : (a.length : Int) ≤ 9223372036854775806) : F_ref00SameBytes (k + 1) a b = some ((decide (a = b), ()), ()) := by
  rw [F_ref00SameBytes_step]
  by_cases hl : a.length = b.length
  · rw [br_f (by simp [hl])]
    have := L_ref00SameBytes_0_eq k a b hl hb k 0 false (by omega) (by omega)
    simp only [List.drop_zero] at this
    rw [show (0 : Int) = ((0 : Nat) : Int) from rfl, this]
    by_cases he : a = b
    · simp [he]
    · simp [he]
  · rw [br_t (by simp only [bne_iff_ne, ne_eq]; omega)]
    have : a ≠ b := fun h => hl (by rw [h])
    simp [this]

theorem F_slicesClonebyte_eq (k : Nat) (a : List Int) (h : a.length ≤ 140737488355328) : F_slicesClonebyte (k + 1) a = some ((a, ()), ()) := by
  rw [F_slicesClonebyte_step, br_t (by simpa using h)]
  cases a with
  | nil => exact bthN_same
  | cons x l => rfl

theorem F_numAt_eq (k : Nat) (a : List Int) (h : a.length ≤ 140737488355328) : F_numAt (k + 2) a = some (((a, (false, ())), ()), ()) := by
  rw [F_numAt_step, F_slicesClonebyte_eq _ _ h]; rfl

theorem F_numCursorlose_eq (k : Nat) (c : Cur) : F_numCursorlose (k + 1) c = some ((), (([], (true, ())), ())) := by rw [F_numCursorlose_step]

theorem F_numCursorEnd_eq (k : Nat) (c : Cur) : F_numCursorEnd (k + 1) c = some ((!c.2.1 && decide (c.1.length = 0), ()), ()) := by
  rw [F_numCursorEnd_step]
  obtain ⟨l, b, u⟩ := c
  cases b <;> simp
  cases l <;> simp
  omega

/-- so many next bytes -/
def takeC (c : Cur) (n : Int) : List Int × Bool × Cur :=
  if c.2.1 = true ∨ n < 0 ∨ n > c.1.length then ([], false, ([], (true, ()))) else (c.1.take n.toNat, true, (c.1.drop n.toNat, (false, ())))

theorem F_numCursortake_eq (k : Nat) (c : Cur) (n : Int) : F_numCursortake (k + 2) c n = some (((takeC c n).1, ((takeC c n).2.1, ())), ((takeC c n).2.2, ())) := by
  rw [F_numCursortake_step]
  obtain ⟨l, b, u⟩ := c
  unfold takeC
  simp only [F_numCursorlose_eq, bd_s]
  by_cases h1 : b = true
  · subst h1; simp
  · have hb : b = false := by simpa using h1
    subst hb
    by_cases h2 : n < 0
    · simp [h2]
    · by_cases h3 : n > l.length
      · simp [h2, h3]
      · have e1 : leB n l.length = true := leB_t ⟨by omega, by omega⟩
        have e2 : leB n n.toNat = true := leB_t ⟨by omega, by omega⟩
        simp [h2, h3, e1, e2]

end Go.Proofs.YtkfikongenapfaaDoor.E

namespace Go.Proofs.YtkfikongenapfaaDoor.E
open Go
set_option linter.unusedSimpArgs false
set_option linter.unusedVariables false
/-- how many bits a number has -/
def bl (n : Nat) : Nat := if n = 0 then 0 else n.log2 + 1

theorem bl_le {n j : Nat} : bl n ≤ j ↔ n < 2 ^ j := by
  unfold bl
  by_cases h : n = 0
  · subst h; simp [Nat.two_pow_pos]
  · rw [if_neg h, ← Nat.log2_lt h]; omega

theorem bl_shift {n c : Nat} (h : 0 < n / 2 ^ c) : bl n = c + bl (n / 2 ^ c) := by
  have hq : n / 2 ^ c < 2 ^ bl (n / 2 ^ c) := bl_le.1 (Nat.le_refl _)
  have hn : n < 2 ^ bl n := bl_le.1 (Nat.le_refl _)
  have hp := Nat.two_pow_pos c
  apply Nat.le_antisymm
  · apply bl_le.2
    rw [Nat.pow_add, Nat.mul_comm]
    exact (Nat.div_lt_iff_lt_mul hp).1 hq
  · have hc : ¬ (bl n ≤ c) := by
      rw [bl_le]
      have := (Nat.le_div_iff_mul_le hp).1 h
      omega
    have : bl (n / 2 ^ c) ≤ bl n - c := by
      apply bl_le.2
      apply (Nat.div_lt_iff_lt_mul hp).2
      rw [← Nat.pow_add]
      rw [show bl n - c + c = bl n by omega]; exact hn
    omega

theorem tab_bl (n : Nat) (h : n < 256) : (UInt8.toNat (List.getD tab_F_mathbitsLen8_0 n (0 : UInt8))) = bl n := by
  have : ((List.range 256).all fun n => (UInt8.toNat (List.getD tab_F_mathbitsLen8_0 n (0 : UInt8))) == bl n) = true := by kernel_rfl
  exact eq_of_beq (List.all_eq_true.1 this n (List.mem_range.2 h))

theorem F_mathbitsLen8_eq (k n : Nat) (h : n < 256) : F_mathbitsLen8 (k + 1) (n : Int) = some (((bl n : Int), ()), ()) := by
  have hb : bl n ≤ 8 := bl_le.2 (by omega)
  rw [F_mathbitsLen8_step, br_t (inB_t ⟨by omega, by omega⟩), Int.toNat_natCast, tab_bl n h, IntWalk.i64_in _ ⟨by omega, by omega⟩]

theorem fdiv_cast (a b : Nat) : Int.fdiv (a : Int) (b : Int) = ((a / b : Nat) : Int) := by
  rw [Int.fdiv_eq_ediv_of_nonneg _ (by omega)]; rfl

theorem look_bl (n c : Nat) (hc : c ≤ 56) (h : n < 256) :
    (some (((IntKind.i64.wrap ((c : Int) + IntKind.i64.wrap (((UInt8.toNat (List.getD tab_F_mathbitsLen8_0 (Int.toNat (IntKind.u8.wrap (n : Int))) (0 : UInt8))) : Nat) : Int))), ()), ()) : Option ((Int × Unit) × Unit)) = some ((((c + bl n : Nat) : Int), ()), ()) := by
  have hb : bl n ≤ 8 := bl_le.2 (by omega)
  rw [IntWalk.u8_in _ ⟨by omega, by omega⟩, Int.toNat_natCast, tab_bl n h, IntWalk.i64_in (bl n : Int) ⟨by omega, by omega⟩, IntWalk.i64_in _ ⟨by omega, by omega⟩]
  simp

theorem F_mathbitsLen64_eq (k n : Nat) (h : n < 18446744073709551616) : F_mathbitsLen64 (k + 1) (n : Int) = some (((bl n : Int), ()), ()) := by
  rw [F_mathbitsLen64_step]
  have e1 : Int.fdiv (n : Int) 4294967296 = ((n / 4294967296 : Nat) : Int) := fdiv_cast n 4294967296
  have e2 : Int.fdiv (n : Int) 65536 = ((n / 65536 : Nat) : Int) := fdiv_cast n 65536
  have e3 : Int.fdiv (n : Int) 256 = ((n / 256 : Nat) : Int) := fdiv_cast n 256
  have e4 : ∀ m : Nat, Int.fdiv (m : Int) 65536 = ((m / 65536 : Nat) : Int) := fun m => fdiv_cast m 65536
  have e5 : ∀ m : Nat, Int.fdiv (m : Int) 256 = ((m / 256 : Nat) : Int) := fun m => fdiv_cast m 256
  simp only [e1, e4, e5]
  have fin : ∀ (q c : Nat), q < 256 → c ≤ 56 → bl n = c + bl q → ∀ (C : Int), C = (c : Int) → br (inB (IntKind.u8.wrap (q : Int)) 256)
      (some (((IntKind.i64.wrap (C + IntKind.i64.wrap (((UInt8.toNat (List.getD tab_F_mathbitsLen8_0 (Int.toNat (IntKind.u8.wrap (q : Int))) (0 : UInt8))) : Nat) : Int))), ()), ()) : Option ((Int × Unit) × Unit)) none = some (((bl n : Int), ()), ()) := by
    rintro q c hq hc hb C rfl
    rw [br_t (inB_t (by rw [IntWalk.u8_in _ ⟨by omega, by omega⟩]; omega)), look_bl q c hc hq, hb]
  by_cases h1 : 4294967296 ≤ n
  · rw [br_t (by simp; omega)]
    by_cases h2 : 65536 ≤ n / 4294967296
    · rw [br_t (by simp; omega)]
      by_cases h3 : 256 ≤ n / 4294967296 / 65536
      · rw [br_t (by simp; omega)]
        refine fin _ 56 (by omega) (by omega) ?_ _ rfl
        rw [show n / 4294967296 / 65536 / 256 = n / 2 ^ 56 by omega]
        exact bl_shift (by omega)
      · rw [br_f (by simp; omega)]
        refine fin _ 48 (by omega) (by omega) ?_ _ rfl
        rw [show n / 4294967296 / 65536 = n / 2 ^ 48 by omega]
        exact bl_shift (by omega)
    · rw [br_f (by simp; omega)]
      by_cases h3 : 256 ≤ n / 4294967296
      · rw [br_t (by simp; omega)]
        refine fin _ 40 (by omega) (by omega) ?_ _ rfl
        rw [show n / 4294967296 / 256 = n / 2 ^ 40 by omega]
        exact bl_shift (by omega)
      · rw [br_f (by simp; omega)]
        refine fin _ 32 (by omega) (by omega) ?_ _ rfl
        rw [show n / 4294967296 = n / 2 ^ 32 by omega]
        exact bl_shift (by omega)
  · rw [br_f (by simp; omega)]
    by_cases h2 : 65536 ≤ n
    · rw [br_t (by simp; omega)]
      by_cases h3 : 256 ≤ n / 65536
      · rw [br_t (by simp; omega)]
        refine fin _ 24 (by omega) (by omega) ?_ _ rfl
        rw [show n / 65536 / 256 = n / 2 ^ 24 by omega]
        exact bl_shift (by omega)
      · rw [br_f (by simp; omega)]
        refine fin _ 16 (by omega) (by omega) ?_ _ rfl
        rw [show n / 65536 = n / 2 ^ 16 by omega]
        exact bl_shift (by omega)
    · rw [br_f (by simp; omega)]
      by_cases h3 : 256 ≤ n
      · rw [br_t (by simp; omega)]
        refine fin _ 8 (by omega) (by omega) ?_ _ rfl
        rw [show n / 256 = n / 2 ^ 8 by omega]
        exact bl_shift (by omega)
      · rw [br_f (by simp; omega)]
        exact fin _ 0 (by omega) (by omega) (by simp) _ rfl

theorem F_mathbitsLen_eq (k n : Nat) (h : n < 18446744073709551616) : F_mathbitsLen (k + 2) (n : Int) = some (((bl n : Int), ()), ()) := by
  rw [F_mathbitsLen_step, F_mathbitsLen64_eq _ _ h]; rfl

/-- how many bytes a number has -/
def sz (n : Nat) : Nat := max 1 ((bl n + 6) / 7)

theorem sz_le {n j : Nat} (hj : 1 ≤ j) : sz n ≤ j ↔ n < 2 ^ (7 * j) := by
  unfold sz
  rw [← bl_le]; omega

theorem sz_pos (n : Nat) : 1 ≤ sz n := by unfold sz; omega

theorem F_numsize_eq (k n : Nat) (h : n < 9223372036854775808) : F_numsize (k + 3) (n : Int) = some (((sz n : Int), ()), ()) := by
  have hb : bl n ≤ 64 := bl_le.2 (by omega)
  rw [F_numsize_step, IntWalk.u64_in _ ⟨by omega, by omega⟩, F_mathbitsLen_eq _ _ (by omega)]
  simp only [bd_s]
  have e : IntKind.i64.wrap (Int.tdiv (IntKind.i64.wrap ((IntKind.i64.wrap ((bl n : Int) + 7)) - 1)) 7) = (((bl n + 6) / 7 : Nat) : Int) := by
    rw [IntWalk.i64_in ((bl n : Int) + 7) ⟨by omega, by omega⟩, IntWalk.i64_in ((bl n : Int) + 7 - 1) ⟨by omega, by omega⟩]
    rw [IntWalk.i64_quo _ _ ⟨by omega, by omega, by omega⟩]; omega
  simp only [e]
  unfold sz
  congr 3
  split <;> omega

theorem F_mathbitsLeadingZeros8_eq (k n : Nat) (h : n < 256) : F_mathbitsLeadingZeros8 (k + 2) (n : Int) = some ((((8 - bl n : Nat) : Int), ()), ()) := by
  have hb : bl n ≤ 8 := bl_le.2 (by omega)
  rw [F_mathbitsLeadingZeros8_step, F_mathbitsLen8_eq _ _ h]
  simp only [bd_s]
  rw [IntWalk.i64_in _ ⟨by omega, by omega⟩]
  congr 3; omega

end Go.Proofs.YtkfikongenapfaaDoor.E

namespace Go.Proofs.YtkfikongenapfaaDoor.E
open Go
set_option linter.unusedSimpArgs false
set_option linter.unusedVariables false
/-- a number's byte at a place, of K -/
def dg (n K j : Nat) : Nat := n / 2 ^ (8 * (K - 1 - j)) % 256

/-- the ones ahead -/
def mask (K : Nat) : Nat := 256 - 2 ^ (9 - K)

/-- a right number's bytes -/
def putL (n : Nat) : List Int := (List.range (sz n)).map fun j => ((dg n (sz n) j + (if j = 0 then mask (sz n) else 0) : Nat) : Int)

theorem pow_shr (x c : Nat) (hc : c ≤ 63) : Int.fdiv (x : Int) ((2 : Int) ^ (Min.min (Int.toNat (c : Int)) 64)) = ((x / 2 ^ c : Nat) : Int) := by
  rw [Int.toNat_natCast, show min c 64 = c by omega]
  have : ((2 : Int) ^ c) = ((2 ^ c : Nat) : Int) := by simp
  rw [this, fdiv_cast]

theorem L_numPut_0_eq (k n K : Nat) (hK : K ≤ 8) : ∀ (r m : Nat) (l : List Int), r ≤ K → r < m → l.length = K →
    L_numPut_0 k (n : Int) (K : Int) () (K : Int) m (((K - r : Nat) : Int), (l, ())) = some (.brk ((K : Int), ((List.range r).map (fun j => ((dg n K j : Nat) : Int)) ++ l.drop r, ())))
  | _, 0, _, _, h, _ => by omega
  | 0, m + 1, l, h1, h2, h3 => by
    rw [L_numPut_0_step, br_f (by simp)]; simp
  | r + 1, m + 1, l, h1, h2, h3 => by
    rw [L_numPut_0_step, br_t (by simp; omega)]
    have e1 : IntKind.i64.wrap ((8 : Int) * ((K - (r + 1) : Nat) : Int)) = ((8 * (K - (r + 1)) : Nat) : Int) := by
      rw [IntWalk.i64_in _ ⟨by omega, by omega⟩]; omega
    have e2 : IntKind.i64.wrap ((IntKind.i64.wrap ((K : Int) - 1)) - ((K - (r + 1) : Nat) : Int)) = (r : Int) := by
      rw [IntWalk.i64_in ((K : Int) - 1) ⟨by omega, by omega⟩, IntWalk.i64_in _ ⟨by omega, by omega⟩]; omega
    rw [e1, e2, br_t (by simp; omega), br_t (inB_t ⟨by omega, by omega⟩), pow_shr _ _ (by omega), IntKind.wrap_u8, Int.toNat_natCast]
    rw [IntWalk.i64_in _ ⟨by omega, by omega⟩]
    have e3 : ((K - (r + 1) : Nat) : Int) + 1 = ((K - r : Nat) : Int) := by omega
    rw [e3]
    have := L_numPut_0_eq k n K hK r m (l.set r (((n / 2 ^ (8 * (K - (r + 1))) : Nat) : Int) % 256)) (by omega) (by omega) (by simpa using h3)
    rw [this]
    congr 4
    rw [List.range_succ, List.map_append, List.append_assoc]
    congr 1
    have hd : dg n K r = n / 2 ^ (8 * (K - (r + 1))) % 256 := by unfold dg; rw [show K - 1 - r = K - (r + 1) by omega]
    rw [List.drop_eq_getElem_cons (by simp; omega)]
    simp [hd, List.drop_set_of_lt]

theorem top_lt {n K : Nat} (h1 : 1 ≤ K) (h8 : K ≤ 7) (hn : n < 2 ^ (7 * K)) : n / 2 ^ (8 * (K - 1)) < 2 ^ (8 - K) := by
  apply (Nat.div_lt_iff_lt_mul (Nat.two_pow_pos _)).2
  rw [← Nat.pow_add, show 8 - K + 8 * (K - 1) = 7 * K by omega]
  exact hn

theorem or_mask (K h : Nat) (h1 : 1 ≤ K) (h8 : K ≤ 7) (hh : h < 2 ^ (8 - K)) :
    IntKind.u8.wrap (((BitVec.toNat ((BitVec.ofInt (8 : Nat) (h : Int)) ||| (BitVec.ofInt (8 : Nat) (IntKind.u8.wrap (((BitVec.toNat ((BitVec.ofInt (8 : Nat) (255 : Int)) ^^^ (BitVec.ofInt (8 : Nat) ((255 / 2 ^ (K - 1) : Nat) : Int)))) : Nat) : Int))))) : Nat) : Int) = ((h + mask K : Nat) : Int) := by
  have key : ((List.range 8).all fun K => (List.range 128).all fun h => !(Nat.ble 1 K && Nat.blt h (2 ^ (8 - K))) ||
      (decide (IntKind.u8.wrap (((BitVec.toNat ((BitVec.ofInt (8 : Nat) (h : Int)) ||| (BitVec.ofInt (8 : Nat) (IntKind.u8.wrap (((BitVec.toNat ((BitVec.ofInt (8 : Nat) (255 : Int)) ^^^ (BitVec.ofInt (8 : Nat) ((255 / 2 ^ (K - 1) : Nat) : Int)))) : Nat) : Int))))) : Nat) : Int) = ((h + mask K : Nat) : Int)))) = true := by kernel_rfl
  have hlt : h < 128 := Nat.lt_of_lt_of_le hh (by
    have : 2 ^ (8 - K) ≤ 2 ^ 7 := Nat.pow_le_pow_right (by omega) (by omega)
    simpa using this)
  have := List.all_eq_true.1 (List.all_eq_true.1 key K (List.mem_range.2 (by omega))) h (List.mem_range.2 hlt)
  simp only [Bool.or_eq_true, Bool.not_eq_true', decide_eq_true_eq] at this
  rcases this with this | this
  · have e1 : Nat.ble 1 K = true := Nat.ble_eq_true_of_le h1
    have e2 : Nat.blt h (2 ^ (8 - K)) = true := by simpa [Nat.blt_eq] using hh
    simp [e1, e2] at this
  · exact this

def most : Nat := 562949953421311

theorem sz_most {n : Nat} (h : n ≤ most) : sz n ≤ 7 := (sz_le (by omega)).2 (by unfold most at h; omega)

theorem putL_cons (n : Nat) : putL n = ((dg n (sz n) 0 + mask (sz n) : Nat) : Int) :: ((List.range (sz n - 1)).map fun j => ((dg n (sz n) (j + 1) : Nat) : Int)) := by
  unfold putL
  have hp := sz_pos n
  obtain ⟨K, hK⟩ : ∃ K, sz n = K + 1 := ⟨sz n - 1, by omega⟩
  rw [hK]
  rw [List.range_succ_eq_map]
  simp [Function.comp_def]

theorem F_numPut_eq (k n : Nat) (hn : n ≤ most) : F_numPut (k + 12) (n : Int) = some ((putL n, (true, ())), ()) := by
  have h7 := sz_most hn
  have hp := sz_pos n
  have hm : n ≤ 562949953421311 := hn
  rw [F_numPut_step, br_f (by simp; omega), F_numsize_eq _ _ (by omega)]
  simp only [bd_s]
  rw [br_t (makeB_t ⟨by omega, by omega, by omega⟩)]
  simp only [List.length_replicate, Int.toNat_natCast]
  have hl : L_numPut_0 (k + 11) (n : Int) (sz n : Int) () (sz n : Int) (k + 11) ((0 : Int), (List.replicate (sz n) 0, ())) = some (.brk ((sz n : Int), ((List.range (sz n)).map (fun j => ((dg n (sz n) j : Nat) : Int)) ++ (List.replicate (sz n) 0).drop (sz n), ()))) := by
    have := L_numPut_0_eq (k + 11) n (sz n) (by omega) (sz n) (k + 11) (List.replicate (sz n) 0) (Nat.le_refl _) (by omega) (by simp)
    rw [Nat.sub_self] at this
    exact this
  rw [hl]
  simp only [bdL_b, List.drop_replicate, Nat.sub_self, List.replicate_zero, List.append_nil]
  obtain ⟨K, hK⟩ : ∃ K, sz n = K + 1 := ⟨sz n - 1, by omega⟩
  have hlen : ((List.range (sz n)).map (fun j => ((dg n (sz n) j : Nat) : Int))).length = sz n := by simp
  rw [br_t (inB_t ⟨by simp, by rw [hlen]; omega⟩), IntWalk.i64_in _ ⟨by omega, by omega⟩, br_t (by simp; omega), br_t (inB_t ⟨by simp, by rw [hlen]; omega⟩)]
  have hmin : (2 : Int) ^ (Min.min (Int.toNat ((sz n : Int) - 1)) 8) = ((2 ^ (sz n - 1) : Nat) : Int) := by
    rw [show ((sz n : Int) - 1) = ((sz n - 1 : Nat) : Int) by omega, Int.toNat_natCast, show min (sz n - 1) 8 = sz n - 1 by omega]; simp
  rw [hmin, show (255 : Int) = ((255 : Nat) : Int) from rfl, fdiv_cast]
  have hd0 : List.getD ((List.range (sz n)).map (fun j => ((dg n (sz n) j : Nat) : Int))) 0 (0 : Int) = ((dg n (sz n) 0 : Nat) : Int) := by
    rw [hK]; simp [List.range_succ_eq_map]
  rw [hd0]
  have ht : dg n (sz n) 0 < 2 ^ (8 - sz n) := by
    unfold dg
    have := top_lt hp h7 ((sz_le hp).1 (Nat.le_refl _))
    rw [Nat.sub_zero]
    exact Nat.lt_of_le_of_lt (Nat.mod_le _ _) this
  have := or_mask (sz n) _ hp h7 ht
  simp only [show ((255 : Nat) : Int) = 255 from rfl] at this ⊢
  rw [this, putL_cons]
  have hfin : ((List.range (sz n)).map (fun j => ((dg n (sz n) j : Nat) : Int))).set 0 ((dg n (sz n) 0 + mask (sz n) : Nat) : Int) = ((dg n (sz n) 0 + mask (sz n) : Nat) : Int) :: ((List.range (sz n - 1)).map fun j => ((dg n (sz n) (j + 1) : Nat) : Int)) := by
    rw [hK]
    simp [List.range_succ_eq_map, Function.comp_def]
  rw [hfin]

theorem F_numPut_no (k : Nat) (n : Int) (hn : n < 0 ∨ n > 562949953421311) : F_numPut (k + 1) n = some (([], (false, ())), ()) := by
  rw [F_numPut_step, br_t]
  rcases hn with h | h
  · simp [h]
  · by_cases h0 : n < 0 <;> simp [h, h0]

end Go.Proofs.YtkfikongenapfaaDoor.E

namespace Go.Proofs.YtkfikongenapfaaDoor.E
open Go
set_option linter.unusedSimpArgs false
set_option linter.unusedVariables false
theorem p128 (j : Nat) : (128 : Nat) ^ j = 2 ^ (7 * j) := by rw [show (128 : Nat) = 2 ^ 7 from rfl, ← Nat.pow_mul]

theorem L_ref01Put_0_eq (k n : Nat) (hn : n ≤ most) : ∀ (m j : Nat), 1 ≤ j → j ≤ sz n → sz n - j < m →
    L_ref01Put_0 k (n : Int) m ((j : Int), (((128 ^ j : Nat) : Int), ())) = some (.brk ((sz n : Int), (((128 ^ sz n : Nat) : Int), ())))
  | 0, j, h1, h2, h3 => by omega
  | m + 1, j, h1, h2, h3 => by
    have h7 := sz_most hn
    have hm : n ≤ 562949953421311 := hn
    rw [L_ref01Put_0_step]
    by_cases h : j < sz n
    · have hge : 128 ^ j ≤ n := by
        rw [p128]
        have h' : ¬ n < 2 ^ (7 * j) := fun hh => by have := (sz_le (n := n) h1).2 hh; omega
        omega
      have hle : 128 ^ j ≤ 128 ^ 6 := Nat.pow_le_pow_right (by omega) (by omega)
      have hs : 128 ^ (j + 1) = 128 ^ j * 128 := Nat.pow_succ ..
      rw [br_t (decide_eq_true (by omega)), IntWalk.i64_in _ ⟨by omega, by omega⟩, IntWalk.i64_in _ ⟨by omega, by omega⟩]
      have := L_ref01Put_0_eq k n hn m (j + 1) (by omega) (by omega) (by omega)
      rw [show ((j : Int) + 1) = ((j + 1 : Nat) : Int) by omega, show (((128 ^ j : Nat) : Int) * 128) = ((128 ^ (j + 1) : Nat) : Int) by rw [hs]; omega]
      exact this
    · have hj : j = sz n := by omega
      subst hj
      have : n < 128 ^ sz n := by rw [p128]; exact (sz_le (sz_pos n)).1 (Nat.le_refl _)
      rw [br_f (decide_eq_false (by omega))]

theorem L_ref01Put_2_eq (k n K : Nat) (hn : n ≤ most) (hK : K ≤ 8) : ∀ (r m : Nat) (l : List Int), r ≤ K → r < m → l.length = K →
    L_ref01Put_2 k () m (((n / 2 ^ (8 * (K - r)) : Nat) : Int), ((r : Int) - 1, (l, ()))) = some (.brk (((n / 2 ^ (8 * K) : Nat) : Int), (-1, ((List.range r).map (fun j => ((dg n K j : Nat) : Int)) ++ l.drop r, ()))))
  | _, 0, _, _, h, _ => by omega
  | 0, m + 1, l, h1, h2, h3 => by
    rw [L_ref01Put_2_step, br_f (by simp)]; simp
  | r + 1, m + 1, l, h1, h2, h3 => by
    have hm : n ≤ 562949953421311 := hn
    have hq : n / 2 ^ (8 * (K - (r + 1))) ≤ n := Nat.div_le_self _ _
    have e0 : n / 2 ^ (8 * (K - r)) = n / 2 ^ (8 * (K - (r + 1))) / 256 := by
      rw [show 8 * (K - r) = 8 * (K - (r + 1)) + 8 by omega, Nat.pow_add, ← Nat.div_div_eq_div_mul]
    have hd : dg n K r = n / 2 ^ (8 * (K - (r + 1))) % 256 := by unfold dg; rw [show K - 1 - r = K - (r + 1) by omega]
    generalize n / 2 ^ (8 * (K - (r + 1))) = q at *
    rw [L_ref01Put_2_step, br_t (decide_eq_true (by omega)), br_t (inB_t ⟨by omega, by omega⟩)]
    rw [IntWalk.i64_quo _ _ ⟨by omega, by omega, by omega⟩, IntKind.wrap_u8]
    rw [Int.tmod_eq_emod_of_nonneg (by omega), IntWalk.i64_in _ ⟨by omega, by omega⟩]
    have e1 : ((q : Int) / 256) = ((n / 2 ^ (8 * (K - r)) : Nat) : Int) := by rw [e0]; omega
    rw [e1]
    have e2 : (((r + 1 : Nat) : Int) - 1).toNat = r := by omega
    rw [e2, show (((r + 1 : Nat) : Int) - 1 - 1) = (r : Int) - 1 by omega]
    have := L_ref01Put_2_eq k n K hn hK r m (l.set r ((q : Int) % 256 % 256)) (by omega) (by omega) (by simpa using h3)
    rw [this]
    congr 5
    rw [List.range_succ, List.map_append, List.append_assoc]
    congr 1
    rw [List.drop_eq_getElem_cons (by simp; omega)]
    simp [hd, List.drop_set_of_lt]

theorem ones_eq (i : Nat) (h : i ≤ 6) : IntKind.i64.wrap ((((256 - 2 ^ (8 - i) : Nat) : Int)) + (Int.fdiv (128 : Int) ((2 : Int) ^ (Min.min (Int.toNat (IntKind.wrap (IntKind.u64) (i : Int))) 64)))) = ((256 - 2 ^ (8 - (i + 1)) : Nat) : Int) := by
  have key : ((List.range 7).all fun i => decide (IntKind.i64.wrap ((((256 - 2 ^ (8 - i) : Nat) : Int)) + (Int.fdiv (128 : Int) ((2 : Int) ^ (Min.min (Int.toNat (IntKind.wrap (IntKind.u64) (i : Int))) 64)))) = ((256 - 2 ^ (8 - (i + 1)) : Nat) : Int))) = true := by kernel_rfl
  simpa using List.all_eq_true.1 key i (List.mem_range.2 (by omega))

theorem L_ref01Put_4_eq (k K : Nat) (h1 : 1 ≤ K) (hK : K ≤ 7) : ∀ (m i : Nat), i ≤ K - 1 → K - 1 - i < m →
    L_ref01Put_4 k (K : Int) m (((256 - 2 ^ (8 - i) : Nat) : Int), ((i : Int), ())) = some (.brk (((mask K : Nat) : Int), (((K - 1 : Nat) : Int), ())))
  | 0, i, h2, h3 => by omega
  | m + 1, i, h2, h3 => by
    rw [L_ref01Put_4_step, IntWalk.i64_in ((K : Int) - 1) ⟨by omega, by omega⟩]
    by_cases h : i < K - 1
    · rw [br_t (by simp; omega), br_t (by rw [IntWalk.u64_in _ ⟨by omega, by omega⟩]; simp), ones_eq i (by omega), IntWalk.i64_in _ ⟨by omega, by omega⟩]
      have := L_ref01Put_4_eq k K h1 hK m (i + 1) (by omega) (by omega)
      rw [show ((i : Int) + 1) = ((i + 1 : Nat) : Int) by omega]
      exact this
    · have : i = K - 1 := by omega
      subst this
      rw [br_f (by simp; omega)]
      unfold mask
      rw [show 8 - (K - 1) = 9 - K by omega]

theorem F_ref01Put_eq (k n : Nat) (hn : n ≤ most) : F_ref01Put (k + 12) (n : Int) = some ((putL n, (true, ())), ()) := by
  have h7 := sz_most hn
  have hp := sz_pos n
  have hm : n ≤ 562949953421311 := hn
  rw [F_ref01Put_step, br_f (by simp; omega)]
  have h0 : L_ref01Put_0 (k + 11) (n : Int) (k + 11) ((1 : Int), ((128 : Int), ())) = some (.brk ((sz n : Int), (((128 ^ sz n : Nat) : Int), ()))) := L_ref01Put_0_eq (k + 11) n hn (k + 11) 1 (Nat.le_refl _) hp (by omega)
  rw [h0]
  simp only [bdL_b]
  rw [br_t (makeB_t ⟨by omega, by omega, by omega⟩), Int.toNat_natCast, IntWalk.i64_in ((sz n : Int) - 1) ⟨by omega, by omega⟩]
  have h2 := L_ref01Put_2_eq (k + 11) n (sz n) hn (by omega) (sz n) (k + 11) (List.replicate (sz n) 0) (Nat.le_refl _) (by omega) (by simp)
  rw [Nat.sub_self, Nat.mul_zero, Nat.pow_zero, Nat.div_one] at h2
  rw [h2]
  simp only [bdL_b, List.drop_replicate, Nat.sub_self, List.replicate_zero, List.append_nil]
  have h4 : L_ref01Put_4 (k + 11) (sz n : Int) (k + 11) ((0 : Int), ((0 : Int), ())) = some (.brk (((mask (sz n) : Nat) : Int), (((sz n - 1 : Nat) : Int), ()))) := L_ref01Put_4_eq (k + 11) (sz n) hp h7 (k + 11) 0 (by omega) (by omega)
  rw [h4, bdL_b]
  dsimp only
  have hlen : ((List.range (sz n)).map (fun j => ((dg n (sz n) j : Nat) : Int))).length = sz n := by simp
  obtain ⟨K, hK⟩ : ∃ K, sz n = K + 1 := ⟨sz n - 1, by omega⟩
  rw [br_t (inB_t ⟨by simp, by rw [hlen]; omega⟩), br_t (inB_t ⟨by simp, by rw [hlen]; omega⟩)]
  have hd0 : List.getD ((List.range (sz n)).map (fun j => ((dg n (sz n) j : Nat) : Int))) 0 (0 : Int) = ((dg n (sz n) 0 : Nat) : Int) := by
    rw [hK]; simp [List.range_succ_eq_map]
  have ht : dg n (sz n) 0 < 2 ^ (8 - sz n) := by
    unfold dg
    have := top_lt hp h7 ((sz_le hp).1 (Nat.le_refl _))
    rw [Nat.sub_zero]
    exact Nat.lt_of_le_of_lt (Nat.mod_le _ _) this
  have hmk : dg n (sz n) 0 + mask (sz n) ≤ 255 ∧ mask (sz n) ≤ 255 := by
    unfold mask
    have e : 2 ^ (9 - sz n) = 2 * 2 ^ (8 - sz n) := by rw [show 9 - sz n = (8 - sz n) + 1 by omega, Nat.pow_succ]; omega
    have e2 : 2 ^ (8 - sz n) ≤ 2 ^ 7 := Nat.pow_le_pow_right (by omega) (by omega)
    have e3 := Nat.two_pow_pos (8 - sz n)
    omega
  rw [hd0, IntWalk.u8_in (mask (sz n) : Int) ⟨by omega, by omega⟩, IntWalk.u8_in _ ⟨by omega, by omega⟩, putL_cons]
  have hfin : ((List.range (sz n)).map (fun j => ((dg n (sz n) j : Nat) : Int))).set 0 (((dg n (sz n) 0 : Nat) : Int) + ((mask (sz n) : Nat) : Int)) = ((dg n (sz n) 0 + mask (sz n) : Nat) : Int) :: ((List.range (sz n - 1)).map fun j => ((dg n (sz n) (j + 1) : Nat) : Int)) := by
    rw [hK]
    simp [List.range_succ_eq_map, Function.comp_def]
  rw [hfin]

theorem F_ref01Put_no (k : Nat) (n : Int) (hn : n < 0 ∨ n > 562949953421311) : F_ref01Put (k + 1) n = some (([], (false, ())), ()) := by
  rw [F_ref01Put_step, br_t]
  rcases hn with h | h
  · simp [h]
  · by_cases h0 : n < 0 <;> simp [h, h0]

def nums (s : List UInt8) : List Int := s.map fun c => ((c.toNat : Nat) : Int)

theorem putL_len (n : Nat) : (putL n).length = sz n := by simp [putL]

theorem F_numPutText_eq (k : Nat) (s : List UInt8) (h : s.length ≤ 20000) : F_numPutText (k + 13) s = some ((putL s.length ++ nums s, ()), ()) := by
  have hm : s.length ≤ most := by unfold most; omega
  have h7 := sz_most hm
  rw [F_numPutText_step, F_numPut_eq _ _ hm]
  simp only [bd_s]
  rw [br_t (by simp [putL_len]; omega)]
  rfl

theorem L_ref01PutText_0_eq (k : Nat) (s : List UInt8) (hs : s.length ≤ 20000) : ∀ (m i : Nat) (l : List Int), i ≤ s.length → s.length - i < m → l.length ≤ 7 + i →
    L_ref01PutText_0 k s m (l, ((i : Int), ())) = some (.brk (l ++ nums (s.drop i), ((s.length : Int), ())))
  | 0, i, l, h1, h2, h3 => by omega
  | m + 1, i, l, h1, h2, h3 => by
    rw [L_ref01PutText_0_step]
    by_cases h : i < s.length
    · rw [br_t (by simp; omega), br_t (inB_t ⟨by omega, by omega⟩), br_t (by simp; omega), IntWalk.i64_in _ ⟨by omega, by omega⟩]
      have := L_ref01PutText_0_eq k s hs m (i + 1) (l ++ [((UInt8.toNat (List.getD s (Int.toNat (i : Int)) (0 : UInt8)) : Nat) : Int)]) (by omega) (by omega) (by simp; omega)
      rw [show ((i : Int) + 1) = ((i + 1 : Nat) : Int) by omega, this]
      have e : nums (s.drop i) = (((List.getD s i 0).toNat : Nat) : Int) :: nums (s.drop (i + 1)) := by
        rw [List.drop_eq_getElem_cons h]
        simp only [nums, List.map_cons]
        simp [List.getD, h]
      rw [e, Int.toNat_natCast, List.append_assoc]; rfl
    · have : i = s.length := by omega
      subst this
      rw [br_f (by simp)]
      simp [nums]

theorem F_ref01PutText_eq (k : Nat) (s : List UInt8) (h : s.length ≤ 20000) (hk : s.length < k) : F_ref01PutText (k + 13) s = some ((putL s.length ++ nums s, ()), ()) := by
  have hm : s.length ≤ most := by unfold most; omega
  have h7 := sz_most hm
  rw [F_ref01PutText_step, F_ref01Put_eq _ _ hm]
  simp only [bd_s]
  have : L_ref01PutText_0 (k + 12) s (k + 12) (putL s.length, ((0 : Int), ())) = some (.brk (putL s.length ++ nums (s.drop 0), ((s.length : Int), ()))) := L_ref01PutText_0_eq (k + 12) s h (k + 12) 0 (putL s.length) (by omega) (by omega) (by rw [putL_len]; omega)
  rw [this]
  rfl

end Go.Proofs.YtkfikongenapfaaDoor.E

namespace Go.Proofs.YtkfikongenapfaaDoor.E
open Go
set_option linter.unusedSimpArgs false
set_option linter.unusedVariables false
/-- how many bytes a number has that begins so -/
def ldK (b : Nat) : Nat := 9 - bl (255 - b)

/-- the bytes of a number behind the first -/
def val (n : Int) (l : List Int) : Int := l.foldl (fun n x => n * 256 + x) n

def lost : Cur := ([], (true, ()))

/-- the next number -/
def numC (c : Cur) (lim : Int) : Int × Cur :=
  match c.1 with
  | [] => (0, lost)
  | b :: l => if c.2.1 = true ∨ ldK b.toNat > 7 ∨ ldK b.toNat > l.length + 1 then (0, lost)
    else
      let K := ldK b.toNat
      let n := val (b % 2 ^ (8 - K)) (l.take (K - 1))
      if sz n.toNat ≠ K ∨ n > lim then (0, lost) else (n, (l.drop (K - 1), (false, ())))

theorem ldK_range (b : Nat) (h : b < 256) : 1 ≤ ldK b ∧ ldK b ≤ 9 := by
  have : bl (255 - b) ≤ 8 := bl_le.2 (by omega)
  unfold ldK; omega

theorem xor_255 (b : Nat) (h : b < 256) : IntKind.u8.wrap (((BitVec.toNat ((BitVec.ofInt (8 : Nat) (255 : Int)) ^^^ (BitVec.ofInt (8 : Nat) (b : Int)))) : Nat) : Int) = ((255 - b : Nat) : Int) := by
  have key : ((List.range 256).all fun b => decide (IntKind.u8.wrap (((BitVec.toNat ((BitVec.ofInt (8 : Nat) (255 : Int)) ^^^ (BitVec.ofInt (8 : Nat) (b : Int)))) : Nat) : Int) = ((255 - b : Nat) : Int))) = true := by kernel_rfl
  simpa using List.all_eq_true.1 key b (List.mem_range.2 h)

theorem and_low (b K : Nat) (h : b < 256) (hK : K ≤ 7) :
    IntKind.i64.wrap (IntKind.u8.wrap (((BitVec.toNat ((BitVec.ofInt (8 : Nat) (b : Int)) &&& (BitVec.ofInt (8 : Nat) ((255 / 2 ^ K : Nat) : Int)))) : Nat) : Int)) = ((b % 2 ^ (8 - K) : Nat) : Int) := by
  have key : ((List.range 8).all fun K => (List.range 256).all fun b => decide (IntKind.i64.wrap (IntKind.u8.wrap (((BitVec.toNat ((BitVec.ofInt (8 : Nat) (b : Int)) &&& (BitVec.ofInt (8 : Nat) ((255 / 2 ^ K : Nat) : Int)))) : Nat) : Int)) = ((b % 2 ^ (8 - K) : Nat) : Int))) = true := by kernel_rfl
  simpa using List.all_eq_true.1 (List.all_eq_true.1 key K (List.mem_range.2 (by omega))) b (List.mem_range.2 h)

theorem or_byte (a x : Nat) (ha : a < 36028797018963968) (hx : x < 256) :
    IntKind.i64.wrap (((BitVec.toNat ((BitVec.ofInt (64 : Nat) (IntKind.i64.wrap ((a : Int) * 256))) ||| (BitVec.ofInt (64 : Nat) (IntKind.i64.wrap (x : Int))))) : Nat) : Int) = ((a * 256 + x : Nat) : Int) := by
  rw [IntWalk.i64_in ((a : Int) * 256) ⟨by omega, by omega⟩, IntWalk.i64_in (x : Int) ⟨by omega, by omega⟩]
  rw [show ((a : Int) * 256) = ((a * 256 : Nat) : Int) by omega, BitVec.ofInt_natCast, BitVec.ofInt_natCast, BitVec.toNat_or, BitVec.toNat_ofNat, BitVec.toNat_ofNat, Nat.mod_eq_of_lt (by omega), Nat.mod_eq_of_lt (by omega)]
  have : a * 256 ||| x = a * 256 + x := by
    have := Nat.two_pow_add_eq_or_of_lt (i := 8) (b := x) (by omega) a
    rw [Nat.mul_comm a 256]; exact this.symm
  rw [this, IntWalk.i64_in _ ⟨by omega, by omega⟩]

theorem val_bd : ∀ (l : List Int) (n : Int) (B : Nat), Byt l → 0 ≤ n → n < B → 0 ≤ val n l ∧ val n l < ((B * 256 ^ l.length : Nat) : Int)
  | [], n, B, _, h0, h1 => by simpa [val] using ⟨h0, h1⟩
  | x :: l, n, B, hb, h0, h1 => by
    have hx := hb x (by simp)
    have := val_bd l (n * 256 + x) (B * 256) (fun y hy => hb y (by simp [hy])) (by omega) (by omega)
    rw [List.length_cons, Nat.pow_succ, Nat.mul_comm (256 ^ l.length) 256, ← Nat.mul_assoc]
    exact this

theorem L_numCursorNum_0_eq (k : Nat) (l : List Int) (hb : Byt l) (hl : l.length ≤ 6) : ∀ (m i : Nat) (n : Int), i ≤ l.length → l.length - i < m → 0 ≤ n → n < ((128 * 256 ^ i : Nat) : Int) →
    L_numCursorNum_0 k l (l.length : Int) m (n, ((i : Int), ())) = some (.brk (val n (l.drop i), ((l.length : Int), ())))
  | 0, i, n, h1, h2, h3, h4 => by omega
  | m + 1, i, n, h1, h2, h3, h4 => by
    rw [L_numCursorNum_0_step]
    by_cases h : i < l.length
    · have hx := hb (l.getD i 0) (by simp [List.getD, h])
      have hp : 256 ^ i ≤ 256 ^ 5 := Nat.pow_le_pow_right (by omega) (by omega)
      have hs : 256 ^ (i + 1) = 256 ^ i * 256 := Nat.pow_succ ..
      rw [br_t (by simp; omega), br_t (inB_t ⟨by omega, by omega⟩), Int.toNat_natCast, getD_drop l i h]
      generalize hg : l.getD i 0 = x at *
      have e : IntKind.i64.wrap (((BitVec.toNat ((BitVec.ofInt (64 : Nat) (IntKind.i64.wrap (n * 256))) ||| (BitVec.ofInt (64 : Nat) (IntKind.i64.wrap x)))) : Nat) : Int) = n * 256 + x := by
        have := or_byte n.toNat x.toNat (by omega) (by omega)
        rw [show ((n.toNat : Nat) : Int) = n by omega, show ((x.toNat : Nat) : Int) = x by omega] at this
        rw [this]; omega
      rw [e, IntWalk.i64_in _ ⟨by omega, by omega⟩]
      have := L_numCursorNum_0_eq k l hb hl m (i + 1) (n * 256 + x) (by omega) (by omega) (by omega) (by omega)
      rw [show ((i : Int) + 1) = ((i + 1 : Nat) : Int) by omega, this]
      rfl
    · have : i = l.length := by omega
      subst this
      rw [br_f (by simp)]
      simp [val]

theorem sz_K {n : Nat} {K : Nat} (h : n < 2 ^ (7 * K)) (hK : 1 ≤ K) (h7 : K ≤ 7) : n ≤ most ∧ sz n ≤ K := by
  refine ⟨?_, (sz_le hK).2 h⟩
  have : 2 ^ (7 * K) ≤ 2 ^ 49 := Nat.pow_le_pow_right (by omega) (by omega)
  unfold most; omega

theorem val_K {b : Nat} {l : List Int} {K : Nat} (hb : Byt l) (h1 : 1 ≤ K) (h7 : K ≤ 7) (hl : K ≤ l.length + 1) :
    0 ≤ val ((b % 2 ^ (8 - K) : Nat) : Int) (l.take (K - 1)) ∧ val ((b % 2 ^ (8 - K) : Nat) : Int) (l.take (K - 1)) < ((2 ^ (7 * K) : Nat) : Int) := by
  have hlen : (l.take (K - 1)).length = K - 1 := by simp; omega
  have := val_bd (l.take (K - 1)) ((b % 2 ^ (8 - K) : Nat) : Int) (2 ^ (8 - K)) (fun x hx => hb x (List.mem_of_mem_take hx)) (by omega) (by have := Nat.mod_lt b (Nat.two_pow_pos (8 - K)); omega)
  rw [hlen, show (256 : Nat) = 2 ^ 8 from rfl, ← Nat.pow_mul, ← Nat.pow_add, show 8 - K + 8 * (K - 1) = 7 * K by omega] at this
  exact this

theorem F_numCursorNum_eq (k : Nat) (c : Cur) (lim : Int) (hc : Byt c.1) (hl : c.1.length ≤ 140737488355328) :
    F_numCursorNum (k + 12) c lim = some (((numC c lim).1, ()), ((numC c lim).2, ())) := by
  rw [F_numCursorNum_step]
  obtain ⟨l, t, u⟩ := c
  cases l with
  | nil =>
    rw [br_t (by simp), F_numCursorlose_eq]; rfl
  | cons b l =>
    have hbb := hc b (by simp)
    obtain ⟨b, rfl⟩ : ∃ n : Nat, b = (n : Int) := ⟨b.toNat, by omega⟩
    have hb : b < 256 := by omega
    have hcl : Byt l := fun x hx => hc x (by simp [hx])
    obtain ⟨hK1, hK9⟩ := ldK_range b hb
    have hx8 : bl (255 - b) ≤ 8 := bl_le.2 (by omega)
    have hldK : ldK b = 1 + (8 - bl (255 - b)) := by unfold ldK; omega
    simp only [numC, Int.toNat_natCast]
    rw [br_f (by simp; omega), br_t (inB_t ⟨by omega, by simp⟩)]
    rw [show List.getD ((b : Int) :: l) 0 0 = (b : Int) from rfl, xor_255 b hb, F_mathbitsLeadingZeros8_eq _ _ (by omega)]
    simp only [bd_s]
    have hKK : IntKind.i64.wrap ((1 : Int) + ((8 - bl (255 - b) : Nat) : Int)) = (ldK b : Int) := by
      rw [IntWalk.i64_in _ ⟨by omega, by omega⟩]; omega
    rw [hKK]
    by_cases h7 : ldK b > 7
    · rw [br_t (decide_eq_true (by omega)), F_numCursorlose_eq, if_pos (.inr (.inl h7))]; rfl
    · rw [br_f (decide_eq_false (by omega)), F_numCursortake_eq]
      simp only [bd_s]
      unfold takeC
      simp only
      by_cases ht : t = true
      · subst ht
        rw [if_pos (.inl rfl), if_pos (.inl rfl)]; rfl
      · have ht' : t = false := by simpa using ht
        subst ht'
        by_cases hlen : ldK b > l.length + 1
        · rw [if_pos (.inr (.inr (by simp; omega))), if_pos (.inr (.inr hlen))]; rfl
        · rw [if_neg (by simp; omega), if_neg (by simp; omega)]
          obtain ⟨K, hK⟩ : ∃ K, ldK b = K + 1 := ⟨ldK b - 1, by omega⟩
          simp only [hK, Int.toNat_natCast, List.take_succ_cons, List.drop_succ_cons, Nat.add_sub_cancel]
          have hlt : (l.take K).length = K := by simp; omega
          rw [br_f (by simp), br_t (inB_t ⟨by omega, by simp⟩), br_t (by simp; omega), br_t (by simp [leB]; omega)]
          have hpw : Int.fdiv 255 ((2 : Int) ^ (Min.min (K + 1) 8)) = ((255 / 2 ^ (K + 1) : Nat) : Int) := by
            rw [show min (K + 1) 8 = K + 1 by omega, show ((2 : Int) ^ (K + 1)) = ((2 ^ (K + 1) : Nat) : Int) by simp, show (255 : Int) = ((255 : Nat) : Int) from rfl, fdiv_cast]
          rw [hpw, show List.getD ((b : Int) :: l.take K) 0 0 = (b : Int) from rfl, and_low b (K + 1) hb (by omega)]
          rw [List.drop_zero, hlt]
          have hb8 : b % 2 ^ (8 - (K + 1)) < 128 := by
            have h1 := Nat.mod_lt b (Nat.two_pow_pos (8 - (K + 1)))
            have h2 : 2 ^ (8 - (K + 1)) ≤ 2 ^ 7 := Nat.pow_le_pow_right (by omega) (by omega)
            omega
          have hL : L_numCursorNum_0 (k + 11) (l.take K) (K : Int) (k + 11) (((b % 2 ^ (8 - (K + 1)) : Nat) : Int), ((0 : Int), ())) = some (.brk (val ((b % 2 ^ (8 - (K + 1)) : Nat) : Int) (l.take K), ((K : Int), ()))) := by
            have := L_numCursorNum_0_eq (k + 11) (l.take K) (fun x hx => hcl x (List.mem_of_mem_take hx)) (by omega) (k + 11) 0 ((b % 2 ^ (8 - (K + 1)) : Nat) : Int) (by omega) (by omega) (by omega) (by omega)
            rw [hlt] at this
            exact this
          rw [hL, bdL_b]
          dsimp only
          have hv := val_K (b := b) (l := l) (K := K + 1) hcl (by omega) (by omega) (by omega)
          rw [Nat.add_sub_cancel] at hv
          have e2 : ((b : Int) % 2 ^ (8 - (K + 1))) = ((b % 2 ^ (8 - (K + 1)) : Nat) : Int) := by simp
          rw [e2]
          have hs49 : 2 ^ (7 * (K + 1)) ≤ 2 ^ 49 := Nat.pow_le_pow_right (by omega) (by omega)
          generalize val ((b % 2 ^ (8 - (K + 1)) : Nat) : Int) (l.take K) = v at *
          obtain ⟨v, rfl⟩ : ∃ n : Nat, v = (n : Int) := ⟨v.toNat, by omega⟩
          rw [show (k + 11) = (k + 8) + 3 from rfl, F_numsize_eq _ _ (by omega)]
          simp only [bd_s, Int.toNat_natCast]
          have hsz := (sz_K (n := v) (K := K + 1) (by omega) (by omega) (by omega)).2
          by_cases hcond : sz v ≠ K + 1 ∨ (v : Int) > lim
          · rw [if_pos hcond, br_t, F_numCursorlose_eq]
            · rfl
            · rcases hcond with h | h
              · have : ((sz v : Int) != ((K + 1 : Nat) : Int)) = true := by simp only [bne_iff_ne, ne_eq]; omega
                rw [this]; rfl
              · rw [decide_eq_true h]; cases ((sz v : Int) != ((K + 1 : Nat) : Int)) <;> rfl
          · have h1 : sz v = K + 1 := by omega
            have h2 : ¬ ((v : Int) > lim) := by omega
            rw [if_neg hcond, br_f]
            have : ((sz v : Int) != ((K + 1 : Nat) : Int)) = false := by rw [h1]; simp
            rw [this, decide_eq_false h2]; rfl

end Go.Proofs.YtkfikongenapfaaDoor.E

namespace Go.Proofs.YtkfikongenapfaaDoor.E
open Go
set_option linter.unusedSimpArgs false
set_option linter.unusedVariables false
/-- bytes as a text -/
def txt (l : List Int) : List UInt8 := l.map fun n => UInt8.ofNat n.toNat

/-- the next text -/
def textC (c : Cur) (lim : Int) : List UInt8 × Cur := (txt (takeC (numC c lim).2 (numC c lim).1).1, (takeC (numC c lim).2 (numC c lim).1).2.2)

theorem F_numCursorText_eq (k : Nat) (c : Cur) (lim : Int) (hc : Byt c.1) (hl : c.1.length ≤ 140737488355328) :
    F_numCursorText (k + 13) c lim = some (((textC c lim).1, ()), ((textC c lim).2, ())) := by
  rw [F_numCursorText_step, F_numCursorNum_eq _ _ _ hc hl]
  simp only [bd_s]
  rw [F_numCursortake_eq]
  rfl

end Go.Proofs.YtkfikongenapfaaDoor.E

namespace Go.Proofs.YtkfikongenapfaaDoor.E
open Go
set_option linter.unusedSimpArgs false
set_option linter.unusedVariables false
/-- the last K bytes of a number -/
def D (K n : Nat) : List Int := (List.range K).map fun j => ((dg n K j : Nat) : Int)

theorem D_succ (K n : Nat) : D (K + 1) n = ((n / 256 ^ K % 256 : Nat) : Int) :: D K n := by
  unfold D
  rw [List.range_succ_eq_map, List.map_cons, List.map_map]
  congr 1
  · unfold dg; rw [show K + 1 - 1 - 0 = K by omega, show (2 : Nat) ^ (8 * K) = 256 ^ K by rw [Nat.pow_mul]]
  · apply List.map_congr_left
    intro j hj
    have : j < K := List.mem_range.1 hj
    simp only [Function.comp, dg]
    rw [show K + 1 - 1 - (j + 1) = K - 1 - j by omega]

theorem putL_D (n : Nat) : putL n = ((n / 256 ^ (sz n - 1) % 256 + mask (sz n) : Nat) : Int) :: D (sz n - 1) n := by
  rw [putL_cons]
  have hp := sz_pos n
  obtain ⟨K, hK⟩ : ∃ K, sz n = K + 1 := ⟨sz n - 1, by omega⟩
  rw [hK, Nat.add_sub_cancel]
  congr 1
  · unfold dg; rw [show K + 1 - 1 - 0 = K by omega, show (2 : Nat) ^ (8 * K) = 256 ^ K by rw [Nat.pow_mul]]
  · unfold D
    apply List.map_congr_left
    intro j hj
    have : j < K := List.mem_range.1 hj
    unfold dg
    rw [show K + 1 - 1 - (j + 1) = K - 1 - j by omega]

theorem top_small {n : Nat} (hn : n ≤ most) : n / 256 ^ (sz n - 1) % 256 < 2 ^ (8 - sz n) ∧ n / 256 ^ (sz n - 1) % 256 = n / 256 ^ (sz n - 1) := by
  have hp := sz_pos n
  have h7 := sz_most hn
  have := top_lt hp h7 ((sz_le hp).1 (Nat.le_refl _))
  rw [show (2 : Nat) ^ (8 * (sz n - 1)) = 256 ^ (sz n - 1) by rw [Nat.pow_mul]] at this
  have h2 : 2 ^ (8 - sz n) ≤ 2 ^ 7 := Nat.pow_le_pow_right (by omega) (by omega)
  have e : n / 256 ^ (sz n - 1) % 256 = n / 256 ^ (sz n - 1) := Nat.mod_eq_of_lt (by omega)
  exact ⟨by rw [e]; exact this, e⟩

end Go.Proofs.YtkfikongenapfaaDoor.E

namespace Go.Proofs.YtkfikongenapfaaDoor.E
open Go
set_option linter.unusedSimpArgs false
set_option linter.unusedVariables false
theorem ld_split (b : Nat) (h : b < 256) (hK : ldK b ≤ 7) : b = b % 2 ^ (8 - ldK b) + mask (ldK b) := by
  have key : ((List.range 256).all fun b => Nat.blt 7 (ldK b) || Nat.beq b (b % 2 ^ (8 - ldK b) + mask (ldK b))) = true := by kernel_rfl
  have := List.all_eq_true.1 key b (List.mem_range.2 h)
  simp only [Bool.or_eq_true] at this
  rcases this with this | this
  · rw [Nat.blt_eq] at this; omega
  · exact Nat.eq_of_beq_eq_true this

theorem ld_put (K t : Nat) (h1 : 1 ≤ K) (h7 : K ≤ 7) (ht : t < 2 ^ (8 - K)) : ldK (t + mask K) = K ∧ (t + mask K) % 2 ^ (8 - K) = t := by
  have key : ((List.range 8).all fun K => (List.range 128).all fun t => !(Nat.ble 1 K && Nat.blt t (2 ^ (8 - K))) || (Nat.beq (ldK (t + mask K)) K && Nat.beq ((t + mask K) % 2 ^ (8 - K)) t)) = true := by kernel_rfl
  have hlt : t < 128 := Nat.lt_of_lt_of_le ht (by
    have : 2 ^ (8 - K) ≤ 2 ^ 7 := Nat.pow_le_pow_right (by omega) (by omega)
    simpa using this)
  have := List.all_eq_true.1 (List.all_eq_true.1 key K (List.mem_range.2 (by omega))) t (List.mem_range.2 hlt)
  simp only [Bool.or_eq_true, Bool.not_eq_true', Bool.and_eq_true] at this
  rcases this with this | this
  · have e1 : Nat.ble 1 K = true := Nat.ble_eq_true_of_le h1
    have e2 : Nat.blt t (2 ^ (8 - K)) = true := by simpa [Nat.blt_eq] using ht
    simp [e1, e2] at this
  · exact ⟨Nat.eq_of_beq_eq_true this.1, Nat.eq_of_beq_eq_true this.2⟩

theorem D_len (K n : Nat) : (D K n).length = K := by simp [D]

theorem D_byt (K n : Nat) : Byt (D K n) := by
  intro x hx
  obtain ⟨j, _, rfl⟩ := List.mem_map.1 hx
  have : dg n K j < 256 := Nat.mod_lt _ (by omega)
  omega

/-- what is put together comes apart -/
theorem val_D : ∀ (l : List Int) (h : Nat), Byt l → ∃ N : Nat, val (h : Int) l = (N : Int) ∧ N / 256 ^ l.length = h ∧ D l.length N = l
  | [], h, _ => ⟨h, rfl, by simp, rfl⟩
  | x :: l, h, hb => by
    have hx := hb x (by simp)
    obtain ⟨x, rfl⟩ : ∃ n : Nat, x = (n : Int) := ⟨x.toNat, by omega⟩
    obtain ⟨N, h1, h2, h3⟩ := val_D l (h * 256 + x) (fun y hy => hb y (by simp [hy]))
    refine ⟨N, ?_, ?_, ?_⟩
    · rw [← h1]; simp [val]
    · rw [List.length_cons, Nat.pow_succ, ← Nat.div_div_eq_div_mul, h2]; omega
    · rw [List.length_cons, D_succ, h2, h3]
      congr 1
      omega

/-- what comes apart is put together again -/
theorem D_val : ∀ (K n : Nat), val ((n / 256 ^ K : Nat) : Int) (D K n) = (n : Int)
  | 0, n => by simp [D, val]
  | K + 1, n => by
    rw [D_succ]
    show val (((n / 256 ^ (K + 1) : Nat) : Int) * 256 + ((n / 256 ^ K % 256 : Nat) : Int)) (D K n) = n
    have : ((n / 256 ^ (K + 1) : Nat) : Int) * 256 + ((n / 256 ^ K % 256 : Nat) : Int) = ((n / 256 ^ K : Nat) : Int) := by
      rw [Nat.pow_succ, ← Nat.div_div_eq_div_mul]; omega
    rw [this]
    exact D_val K n

/-- what was put is taken again -/
theorem num_put (n : Nat) (hn : n ≤ most) (rest : List Int) (lim : Int) (hl : (n : Int) ≤ lim) : numC (putL n ++ rest, (false, ())) lim = ((n : Int), (rest, (false, ()))) := by
  have hp := sz_pos n
  have h7 := sz_most hn
  obtain ⟨tn, en⟩ := top_small hn
  obtain ⟨e1, e2⟩ := ld_put (sz n) _ hp h7 tn
  rw [putL_D]
  simp only [List.cons_append, numC, Int.toNat_natCast]
  rw [e1, if_neg (by simp [D_len]; omega)]
  have ht : (D (sz n - 1) n ++ rest).take (sz n - 1) = D (sz n - 1) n := by rw [List.take_left' (D_len _ _)]
  have hd : (D (sz n - 1) n ++ rest).drop (sz n - 1) = rest := by rw [List.drop_left' (D_len _ _)]
  have hm : (((n / 256 ^ (sz n - 1) % 256 + mask (sz n) : Nat) : Int) % 2 ^ (8 - sz n)) = ((n / 256 ^ (sz n - 1) : Nat) : Int) := by
    rw [← en]
    have : (((n / 256 ^ (sz n - 1) % 256 + mask (sz n)) % 2 ^ (8 - sz n) : Nat) : Int) = ((n / 256 ^ (sz n - 1) % 256 : Nat) : Int) := by rw [e2]
    rw [← this]; simp
  rw [ht, hd, hm, D_val, Int.toNat_natCast, if_neg (by omega)]

/-- bytes that are a number are those that are put -/
theorem put_num {b : List Int} {lim : Int} (hb : Byt b) (hl : lim ≤ 562949953421311) (h : (numC (b, (false, ())) lim).2.2.1 = false) :
    ∃ n : Nat, n ≤ most ∧ (numC (b, (false, ())) lim).1 = (n : Int) ∧ b = putL n ++ (numC (b, (false, ())) lim).2.1 := by
  cases b with
  | nil => simp [numC, lost] at h
  | cons x l =>
    have hx := hb x (by simp)
    obtain ⟨x, rfl⟩ : ∃ n : Nat, x = (n : Int) := ⟨x.toNat, by omega⟩
    have hx6 : x < 256 := by omega
    have hbl : Byt l := fun y hy => hb y (by simp [hy])
    obtain ⟨hK1, _⟩ := ldK_range x hx6
    simp only [numC, Int.toNat_natCast] at h ⊢
    by_cases hc : (false = true ∨ ldK x > 7 ∨ ldK x > l.length + 1)
    · rw [if_pos hc] at h; simp [lost] at h
    · rw [if_neg hc] at h ⊢
      simp only [not_or] at hc
      have hlen : (l.take (ldK x - 1)).length = ldK x - 1 := by simp; omega
      obtain ⟨N, h1, h2, h3⟩ := val_D (l.take (ldK x - 1)) (x % 2 ^ (8 - ldK x)) (fun y hy => hbl y (List.mem_of_mem_take hy))
      have e2 : ((x : Int) % 2 ^ (8 - ldK x)) = ((x % 2 ^ (8 - ldK x) : Nat) : Int) := by simp
      rw [e2, h1, Int.toNat_natCast] at h ⊢
      by_cases hq : (sz N ≠ ldK x ∨ (N : Int) > lim)
      · rw [if_pos hq] at h; simp [lost] at h
      · rw [if_neg hq]
        have hs : sz N = ldK x := by omega
        have hN : N ≤ most := by unfold most; omega
        refine ⟨N, hN, rfl, ?_⟩
        rw [hlen] at h2 h3
        rw [putL_D, hs, h2, h3]
        have hm := ld_split x hx6 (by omega)
        have hlt : x % 2 ^ (8 - ldK x) % 256 = x % 2 ^ (8 - ldK x) := Nat.mod_eq_of_lt (Nat.lt_of_le_of_lt (Nat.mod_le _ _) hx6)
        rw [hlt, ← hm, List.cons_append, List.take_append_drop]

end Go.Proofs.YtkfikongenapfaaDoor.E

namespace Go.Proofs.YtkfikongenapfaaDoor.E
open Go
set_option linter.unusedSimpArgs false
set_option linter.unusedVariables false
theorem nums_byt (s : List UInt8) : Byt (nums s) := by
  intro x hx
  obtain ⟨c, _, rfl⟩ := List.mem_map.1 hx
  have := c.toNat_lt
  omega

theorem putL_byt (n : Nat) (hn : n ≤ most) : Byt (putL n) := by
  rw [putL_D]
  intro x hx
  rcases List.mem_cons.1 hx with rfl | hx
  · obtain ⟨h1, h2⟩ := top_small hn
    have hp := sz_pos n
    have h7 := sz_most hn
    have e9 : 2 ^ (9 - sz n) = 2 * 2 ^ (8 - sz n) := by rw [show 9 - sz n = (8 - sz n) + 1 by omega, Nat.pow_succ]; omega
    have e8 : 2 ^ (8 - sz n) ≤ 2 ^ 7 := Nat.pow_le_pow_right (by omega) (by omega)
    unfold mask
    omega
  · exact D_byt _ _ x hx

theorem Byt.append {a b : List Int} (ha : Byt a) (hb : Byt b) : Byt (a ++ b) := fun x hx => by
  rcases List.mem_append.1 hx with h | h
  · exact ha x h
  · exact hb x h

theorem Byt.take {a : List Int} (ha : Byt a) (n : Nat) : Byt (a.take n) := fun x hx => ha x (List.mem_of_mem_take hx)

theorem txt_nums (s : List UInt8) : txt (nums s) = s := by
  unfold txt nums
  rw [List.map_map]
  conv => rhs; rw [← List.map_id s]
  apply List.map_congr_left
  intro c _
  simp

end Go.Proofs.YtkfikongenapfaaDoor.E

namespace Go.Proofs.YtkfikongenapfaaDoor.E
open Go
set_option linter.unusedSimpArgs false
set_option linter.unusedVariables false
/-- what is lost has nothing left -/
def Fit (c : Cur) : Prop := Byt c.1 ∧ (c.2.1 = true → c.1 = [])

theorem fit_lost : Fit lost := ⟨by intro x hx; simp [lost] at hx, fun _ => rfl⟩

theorem fit_take {c : Cur} (h : Fit c) (n : Int) : Fit (takeC c n).2.2 := by
  unfold takeC
  split
  · exact fit_lost
  · exact ⟨fun x hx => h.1 x (List.mem_of_mem_drop hx), fun h => by simp at h⟩

theorem fit_num {c : Cur} (h : Fit c) (lim : Int) : Fit (numC c lim).2 := by
  unfold numC
  split
  · exact fit_lost
  · rename_i b l hc
    split
    · exact fit_lost
    · dsimp only
      split
      · exact fit_lost
      · exact ⟨fun x hx => h.1 x (by rw [hc]; exact List.mem_cons_of_mem _ (List.mem_of_mem_drop hx)), fun h => by simp at h⟩

theorem len_take (c : Cur) (n : Int) : (takeC c n).2.2.1.length ≤ c.1.length := by
  unfold takeC
  split
  · simp
  · simp

theorem len_num (c : Cur) (lim : Int) : (numC c lim).2.1.length ≤ c.1.length := by
  unfold numC
  split
  · simp [lost]
  · rename_i b l hc
    rw [hc]
    split
    · simp [lost]
    · dsimp only
      split
      · simp [lost]
      · simp; omega

theorem num_nonneg {c : Cur} (h : Fit c) (lim : Int) : 0 ≤ (numC c lim).1 := by
  unfold numC
  split
  · exact Int.le_refl _
  · rename_i b l hc
    split
    · exact Int.le_refl _
    · rename_i h1
      simp only [not_or] at h1
      dsimp only
      split
      · exact Int.le_refl _
      · have hb := h.1 b (by rw [hc]; simp)
        have hl : Byt l := fun x hx => h.1 x (by rw [hc]; exact List.mem_cons_of_mem _ hx)
        have e : (b % 2 ^ (8 - ldK b.toNat)) = ((b.toNat % 2 ^ (8 - ldK b.toNat) : Nat) : Int) := by
          obtain ⟨b, rfl⟩ : ∃ n : Nat, b = (n : Int) := ⟨b.toNat, by omega⟩
          simp
        have hp := Nat.mod_lt b.toNat (Nat.two_pow_pos (8 - ldK b.toNat))
        rw [e]
        exact (val_bd _ _ (2 ^ (8 - ldK b.toNat)) (fun x hx => hl x (List.mem_of_mem_take hx)) (by omega) (by omega)).1

end Go.Proofs.YtkfikongenapfaaDoor.E

namespace Go.Proofs.YtkfikongenapfaaDoor.E
open Go
set_option linter.unusedSimpArgs false
set_option linter.unusedVariables false
theorem len_text (c : Cur) (lim : Int) : (textC c lim).2.1.length ≤ c.1.length := Nat.le_trans (len_take _ _) (len_num c lim)

theorem fit_text {c : Cur} (h : Fit c) (lim : Int) : Fit (textC c lim).2 := fit_take (fit_num h lim) _

theorem num_lost0 {c : Cur} (h : Fit c) (hl : c.2.1 = true) (lim : Int) : numC c lim = (0, lost) := by
  unfold numC; rw [h.2 hl]

theorem take_lost {c : Cur} (hl : c.2.1 = true) (n : Int) : takeC c n = ([], false, lost) := by
  unfold takeC; rw [if_pos (.inl hl)]; rfl

theorem take_no {c : Cur} {n : Int} (h : (takeC c n).2.2.2.1 = true) : (takeC c n).1 = [] := by
  unfold takeC at h ⊢
  split
  · rfl
  · rename_i h1; rw [if_neg h1] at h; simp at h

theorem text_lost0 {c : Cur} (h : Fit c) (hl : c.2.1 = true) (lim : Int) : textC c lim = ([], lost) := by
  unfold textC; rw [num_lost0 h hl, take_lost (by rfl)]; rfl

theorem text_no {c : Cur} {n : Int} (h : (textC c n).2.2.1 = true) : (textC c n).1 = [] := by
  unfold textC at h ⊢
  simp only at h ⊢
  rw [take_no h]; rfl

end Go.Proofs.YtkfikongenapfaaDoor.E

namespace Go.Proofs.YtkfikongenapfaaDoor.E
open Go
set_option linter.unusedVariables false
set_option maxRecDepth 100000
noncomputable def F_stampRightOp (k : Nat) (a0 : TId) : Option (((Bool) × (Unit)) × (Unit)) := fnE E0 k 43 (a0, ())

noncomputable def F_stampRightBlock (k : Nat) (a0 : TId) : Option (((Bool) × (Unit)) × (Unit)) := fnE E0 k 44 (a0, ())

noncomputable def F_fracRight (k : Nat) (a0 : List (UInt8)) : Option (((Bool) × (Unit)) × (Unit)) := fnE E0 k 45 (a0, ())

noncomputable def F_ref04Right (k : Nat) (a0 : List (UInt8)) : Option (((Bool) × (Unit)) × (Unit)) := fnE E0 k 51 (a0, ())

noncomputable def F_stampRightChar (k : Nat) (a0 : TChar) : Option (((Bool) × (Unit)) × (Unit)) := fnE E0 k 88 (a0, ())

noncomputable def F_oprightCut (k : Nat) (a0 : TCut) : Option (((Bool) × (Unit)) × (Unit)) := fnE E0 k 91 (a0, ())

noncomputable def F_law05fold (k : Nat)  : Option (((TOp) × (Unit)) × (Unit)) := fnE E0 k 53 ()

noncomputable def F_opparts (k : Nat) (a0 : Int) : Option (((List (Int)) × (Unit)) × (Unit)) := fnE E0 k 56 (a0, ())

noncomputable def F_stampRightStamp (k : Nat) (a0 : TId) : Option (((Bool) × (Unit)) × (Unit)) := fnE E0 k 58 (a0, ())

noncomputable def F_ref03RightOp (k : Nat) (a0 : TId) : Option (((Bool) × (Unit)) × (Unit)) := fnE E0 k 99 (a0, ())

noncomputable def F_ref03RightBlock (k : Nat) (a0 : TId) : Option (((Bool) × (Unit)) × (Unit)) := fnE E0 k 101 (a0, ())

noncomputable def F_ref03RightChar (k : Nat) (a0 : TChar) : Option (((Bool) × (Unit)) × (Unit)) := fnE E0 k 102 (a0, ())

noncomputable def F_opwriternums (k : Nat) (a0 : (List (Int)) × (Unit)) (a1 : List (Int)) : Option ((Unit) × (((List (Int)) × (Unit)) × (Unit))) := fnE E0 k 54 (a0, a1, ())

noncomputable def F_opwritername (k : Nat) (a0 : (List (Int)) × (Unit)) (a1 : TId) : Option ((Unit) × (((List (Int)) × (Unit)) × (Unit))) := fnE E0 k 55 (a0, a1, ())

noncomputable def F_opwritertext (k : Nat) (a0 : (List (Int)) × (Unit)) (a1 : List (UInt8)) : Option ((Unit) × (((List (Int)) × (Unit)) × (Unit))) := fnE E0 k 77 (a0, a1, ())

noncomputable def F_opwriterchar (k : Nat) (a0 : (List (Int)) × (Unit)) (a1 : TChar) : Option ((Unit) × (((List (Int)) × (Unit)) × (Unit))) := fnE E0 k 87 (a0, a1, ())

noncomputable def F_oppartput (k : Nat) (a0 : Int) (a1 : (List (Int)) × (Unit)) (a2 : TOp) : Option ((Unit) × (((List (Int)) × (Unit)) × (Unit))) := fnE E0 k 57 (a0, a1, a2, ())

noncomputable def F_opbare (k : Nat) (a0 : TOp) : Option (((TOp) × (Unit)) × (Unit)) := fnE E0 k 59 (a0, ())

noncomputable def F_slicesEqualapiCut (k : Nat) (a0 : List (TCut)) (a1 : List (TCut)) : Option (((Bool) × (Unit)) × (Unit)) := fnE E0 k 67 (a0, a1, ())

noncomputable def F_slicesCloneapiCut (k : Nat) (a0 : List (TCut)) : Option (((List (TCut)) × (Unit)) × (Unit)) := fnE E0 k 69 (a0, ())

noncomputable def F_oppartcopy (k : Nat) (a0 : Int) (a1 : TOp) (a2 : TOp) : Option ((Unit) × ((TOp) × (Unit))) := fnE E0 k 61 (a0, a1, a2, ())

noncomputable def F_slicesIndexapiId (k : Nat) (a0 : List (TId)) (a1 : TId) : Option (((Int) × (Unit)) × (Unit)) := fnE E0 k 95 (a0, a1, ())

noncomputable def F_slicesContainsapiId (k : Nat) (a0 : List (TId)) (a1 : TId) : Option (((Bool) × (Unit)) × (Unit)) := fnE E0 k 68 (a0, a1, ())

noncomputable def F_oppartright (k : Nat) (a0 : Int) (a1 : TOp) : Option (((Bool) × (Unit)) × (Unit)) := fnE E0 k 60 (a0, a1, ())

noncomputable def F_opreadernum (k : Nat) (a0 : (Cur) × (Unit)) : Option (((Int) × (Unit)) × ((Cur) × (Unit))) := fnE E0 k 63 (a0, ())

noncomputable def F_opreadername (k : Nat) (a0 : (Cur) × (Unit)) : Option (((TId) × (Unit)) × ((Cur) × (Unit))) := fnE E0 k 64 (a0, ())

noncomputable def F_opreaderchar (k : Nat) (a0 : (Cur) × (Unit)) : Option (((TChar) × (Unit)) × ((Cur) × (Unit))) := fnE E0 k 93 (a0, ())

noncomputable def F_opreadercut (k : Nat) (a0 : (Cur) × (Unit)) : Option (((TCut) × (Unit)) × ((Cur) × (Unit))) := fnE E0 k 94 (a0, ())

noncomputable def F_opparttake (k : Nat) (a0 : Int) (a1 : (Cur) × (Unit)) (a2 : TOp) : Option ((Unit) × ((Cur) × ((TOp) × (Unit)))) := fnE E0 k 65 (a0, a1, a2, ())

noncomputable def F_ref05num (k : Nat) (a0 : Int) : Option (((List (Int)) × (Unit)) × (Unit)) := fnE E0 k 78 (a0, ())

noncomputable def F_ref05name (k : Nat) (a0 : TId) : Option (((List (Int)) × (Unit)) × (Unit)) := fnE E0 k 108 (a0, ())

noncomputable def F_ref05char (k : Nat) (a0 : TChar) : Option (((List (Int)) × (Unit)) × (Unit)) := fnE E0 k 109 (a0, ())

noncomputable def F_ref05kept (k : Nat) (a0 : TOp) : Option (((TOp) × (Unit)) × (Unit)) := fnE E0 k 100 (a0, ())

theorem F_stampRightOp_step (k : Nat) (a0 : TId) : F_stampRightOp (k + 1) a0 =
  (some (((cond (cond (cond (decide (a0.1 ≥ (0 : Int))) (decide (a0.1 < (16 : Int))) false) (decide (a0.2.1 ≥ (1 : Int))) false) (decide (a0.2.1 ≤ (1048576 : Int))) false), ()), ())) := by kernel_rfl

theorem F_stampRightBlock_step (k : Nat) (a0 : TId) : F_stampRightBlock (k + 1) a0 =
  (br (cond (denEq (.pair (.int .i64) (.pair (.int .i64) .unit)) a0 ((0 : Int), ((0 : Int), ()))) true (denEq (.pair (.int .i64) (.pair (.int .i64) .unit)) a0 ((1 : Int), ((0 : Int), ()))))
   (some ((true, ()), ()))
   (bd (F_stampRightOp k a0) (fun (r : ((Bool) × (Unit)) × (Unit)) => (some ((r.1.1, ()), ()))))) := by kernel_rfl

theorem F_fracRight_step (k : Nat) (a0 : List (UInt8)) : F_fracRight (k + 1) a0 =
  (br (cond (!(a0 == ([] : List UInt8))) (decide ((((List.length a0) : Nat) : Int) ≤ (32 : Int))) false)
   (br (inB (IntKind.wrap (IntKind.i64) ((((List.length a0) : Nat) : Int) - (1 : Int))) (List.length a0))
    (some (((cond true ((((UInt8.toNat (List.getD a0 (Int.toNat (IntKind.wrap (IntKind.i64) ((((List.length a0) : Nat) : Int) - (1 : Int)))) (0 : UInt8))) : Nat) : Int) != (0 : Int)) false), ()), ()))
    none)
   (some ((false, ()), ()))) := by kernel_rfl

theorem F_ref04Right_step (k : Nat) (a0 : List (UInt8)) : F_ref04Right (k + 1) a0 =
  (br (cond (decide ((((List.length a0) : Nat) : Int) ≥ (1 : Int))) (decide ((((List.length a0) : Nat) : Int) ≤ (32 : Int))) false)
   (br (inB (IntKind.wrap (IntKind.i64) ((((List.length a0) : Nat) : Int) - (1 : Int))) (List.length a0))
    (some (((cond true ((((UInt8.toNat (List.getD a0 (Int.toNat (IntKind.wrap (IntKind.i64) ((((List.length a0) : Nat) : Int) - (1 : Int)))) (0 : UInt8))) : Nat) : Int) != (0 : Int)) false), ()), ()))
    none)
   (some ((false, ()), ()))) := by kernel_rfl

theorem F_stampRightChar_step (k : Nat) (a0 : TChar) : F_stampRightChar (k + 1) a0 =
  (br (denEq (.pair (.pair (.int .i64) (.pair (.int .i64) .unit)) (.pair (.int .i64) .unit)) a0 (((0 : Int), ((0 : Int), ())), ((0 : Int), ())))
   (some (((cond true true (cond (cond false (decide (a0.2.1 ≥ (0 : Int))) false) (decide (a0.2.1 < (64 : Int))) false)), ()), ()))
   (bd (F_stampRightOp k a0.1) (fun (r : ((Bool) × (Unit)) × (Unit)) => (some (((cond false true (cond (cond r.1.1 (decide (a0.2.1 ≥ (0 : Int))) false) (decide (a0.2.1 < (64 : Int))) false)), ()), ()))))) := by kernel_rfl

theorem F_oprightCut_step (k : Nat) (a0 : TCut) : F_oprightCut (k + 1) a0 =
  (bd (F_stampRightOp k a0.1) (fun (r : ((Bool) × (Unit)) × (Unit)) => (some (((cond (cond (cond r.1.1 (decide (a0.2.1 ≥ (0 : Int))) false) (decide (a0.2.1 < a0.2.2.1)) false) (decide (a0.2.2.1 ≤ (64 : Int))) false), ()), ())))) := by kernel_rfl

theorem F_law05fold_step (k : Nat)  : F_law05fold (k + 1)  =
  (some ((((6 : Int), (((1 : Int), ((2 : Int), ())), ((3 : Int), (((0 : Int), ((1 : Int), ())), (((0 : Int), ((0 : Int), ())), (([] : List UInt8), (((0 : Int), ((0 : Int), ())), ((((0 : Int), ((0 : Int), ())), ((0 : Int), ())), ((((0 : Int), ((0 : Int), ())), ((0 : Int), ())), (([] : List UInt8), (([] : List (TCut)), (true, ())))))))))))), ()), ())) := by kernel_rfl

theorem F_opparts_step (k : Nat) (a0 : Int) : F_opparts (k + 1) a0 =
  (br (a0 == (1 : Int))
   (some ((((2 : Int) :: ([] : List (Int))), ()), ()))
   (br (a0 == (2 : Int))
    (some ((((0 : Int) :: ((2 : Int) :: ([] : List (Int)))), ()), ()))
    (br (a0 == (3 : Int))
     (some ((((1 : Int) :: ((3 : Int) :: ([] : List (Int)))), ()), ()))
     (br (a0 == (4 : Int))
      (some ((((4 : Int) :: ([] : List (Int))), ()), ()))
      (br (a0 == (5 : Int))
       (some ((((1 : Int) :: ((2 : Int) :: ([] : List (Int)))), ()), ()))
       (br (a0 == (6 : Int))
        (some ((((0 : Int) :: ((5 : Int) :: ([] : List (Int)))), ()), ()))
        (some ((([] : List (Int)), ()), ())))))))) := by kernel_rfl

theorem F_stampRightStamp_step (k : Nat) (a0 : TId) : F_stampRightStamp (k + 1) a0 =
  (some (((cond (cond (cond (decide (a0.1 ≥ (1 : Int))) (decide (a0.1 ≤ (1099511627776 : Int))) false) (decide (a0.2.1 ≥ (0 : Int))) false) (decide (a0.2.1 < (16 : Int))) false), ()), ())) := by kernel_rfl

theorem F_ref03RightOp_step (k : Nat) (a0 : TId) : F_ref03RightOp (k + 1) a0 =
  (some (((cond (cond (cond (decide (a0.1 ≥ (0 : Int))) (decide (a0.1 ≤ (15 : Int))) false) (decide (a0.2.1 ≥ (1 : Int))) false) (decide (a0.2.1 ≤ (1048576 : Int))) false), ()), ())) := by kernel_rfl

theorem F_ref03RightBlock_step (k : Nat) (a0 : TId) : F_ref03RightBlock (k + 1) a0 =
  (bd (F_ref03RightOp k a0) (fun (r : ((Bool) × (Unit)) × (Unit)) => (some (((cond r.1.1 true (cond (a0.2.1 == (0 : Int)) (cond (a0.1 == (0 : Int)) true (a0.1 == (1 : Int))) false)), ()), ())))) := by kernel_rfl

theorem F_ref03RightChar_step (k : Nat) (a0 : TChar) : F_ref03RightChar (k + 1) a0 =
  (br (denEq (.pair (.pair (.int .i64) (.pair (.int .i64) .unit)) (.pair (.int .i64) .unit)) a0 (((0 : Int), ((0 : Int), ())), ((0 : Int), ())))
   (some (((cond true true (cond (cond false (decide (a0.2.1 ≥ (0 : Int))) false) (decide (a0.2.1 ≤ (63 : Int))) false)), ()), ()))
   (bd (F_ref03RightOp k a0.1) (fun (r : ((Bool) × (Unit)) × (Unit)) => (some (((cond false true (cond (cond r.1.1 (decide (a0.2.1 ≥ (0 : Int))) false) (decide (a0.2.1 ≤ (63 : Int))) false)), ()), ()))))) := by kernel_rfl

noncomputable def L_opwriternums_0 (k : Nat) (s0 : Unit) (s1 : List (Int)) (s2 : Int) : Nat → (Int) × (((List (Int)) × (Unit)) × (Unit)) → Option (LO (Unit) ((Int) × (((List (Int)) × (Unit)) × (Unit))) (((List (Int)) × (Unit)) × (Unit))) :=
  loopF true 0 29 55000000 54 cut55000000_54_0 (s0, s1, s2, ()) (fun σ K => bodyAt E0 (fnE E0 k) (inl5 E0 (fnE E0 k) k) 54 (rvOf 54) k (codeOf 54 0) _ σ K)

theorem L_opwriternums_0_step (k m : Nat) (s0 : Unit) (s1 : List (Int)) (s2 : Int) (x0 : Int) (x1 : (List (Int)) × (Unit)) : L_opwriternums_0 k s0 s1 s2 (m + 1) (x0, x1, ()) =
  (br (decide (x0 < s2))
   (br (inB x0 (List.length s1))
    (bd (F_numPut k (List.getD s1 (Int.toNat x0) (0 : Int))) (fun (r : (Cur) × (Unit)) => (br (decide ((((List.length x1.1) + (List.length r.1.1)) * (1 : Nat)) ≤ (140737488355328 : Nat)))
      (L_opwriternums_0 k s0 s1 s2 m ((IntKind.wrap (IntKind.i64) (x0 + (1 : Int))), (((x1.1 ++ r.1.1), x1.2), ())))
      none)))
    none)
   (some (.brk (x0, (x1, ()))))) := by kernel_rfl

theorem F_opwriternums_step (k : Nat) (a0 : (List (Int)) × (Unit)) (a1 : List (Int)) : F_opwriternums (k + 1) a0 a1 =
  (bdL (L_opwriternums_0 k () a1 (((List.length a1) : Nat) : Int) k ((0 : Int), (a0, ())))
   (fun (b : (Int) × (((List (Int)) × (Unit)) × (Unit))) => (some ((), (b.2.1, ()))))
   (fun (j : Nat) => (fun (b : (Int) × (((List (Int)) × (Unit)) × (Unit))) => none))
   (fun (q : Unit) => (fun (b : ((List (Int)) × (Unit)) × (Unit)) => (some (q, (b.1, ())))))) := by kernel_rfl

theorem F_opwritername_step (k : Nat) (a0 : (List (Int)) × (Unit)) (a1 : TId) : F_opwritername (k + 1) a0 a1 =
  (bd (F_opwriternums k a0 (a1.1 :: (a1.2.1 :: ([] : List (Int))))) (fun (r : (Unit) × (((List (Int)) × (Unit)) × (Unit))) => (some ((), (r.2.1, ()))))) := by kernel_rfl

theorem F_opwritertext_step (k : Nat) (a0 : (List (Int)) × (Unit)) (a1 : List (UInt8)) : F_opwritertext (k + 1) a0 a1 =
  (bd (F_numPutText k a1) (fun (r : ((List (Int)) × (Unit)) × (Unit)) => (br (decide ((((List.length a0.1) + (List.length r.1.1)) * (1 : Nat)) ≤ (140737488355328 : Nat)))
     (some ((), (((a0.1 ++ r.1.1), a0.2), ())))
     none))) :=
 (show F_opwritertext (k + 1) a0 a1 =
  (both
   (bd (F_numPutText k a1) (fun (r : ((List (Int)) × (Unit)) × (Unit)) => (br (decide ((((List.length a0.1) + (List.length r.1.1)) * (1 : Nat)) ≤ (140737488355328 : Nat)))
     (some ((), (((a0.1 ++ r.1.1), a0.2), ())))
     none)))
   (bd (F_numPutText k a1) (fun (r : ((List (Int)) × (Unit)) × (Unit)) => (br (decide ((((List.length a0.1) + (List.length r.1.1)) * (1 : Nat)) ≤ (140737488355328 : Nat)))
     (some ((), (((a0.1 ++ r.1.1), a0.2), ())))
     none)))) by kernel_rfl).trans (by simp only [both_self])

theorem F_opwriterchar_step (k : Nat) (a0 : (List (Int)) × (Unit)) (a1 : TChar) : F_opwriterchar (k + 1) a0 a1 =
  (bd (F_opwritername k a0 a1.1) (fun (r : (Unit) × (((List (Int)) × (Unit)) × (Unit))) => (bd (F_opwriternums k r.2.1 (a1.2.1 :: ([] : List (Int)))) (fun (r1 : (Unit) × (((List (Int)) × (Unit)) × (Unit))) => (some ((), (r1.2.1, ()))))))) := by kernel_rfl

noncomputable def L_oppartput_1 (k : Nat) (s0 : Unit) (s1 : List (TCut)) (s2 : Int) : Nat → (Int) × (((List (Int)) × (Unit)) × (Unit)) → Option (LO (Unit) ((Int) × (((List (Int)) × (Unit)) × (Unit))) (((List (Int)) × (Unit)) × (Unit))) :=
  loopF true 1 81 58000000 57 cut58000000_57_1 (s0, s1, s2, ()) (fun σ K => bodyAt E0 (fnE E0 k) (inl5 E0 (fnE E0 k) k) 57 (rvOf 57) k (codeOf 57 1) _ σ K)

theorem L_oppartput_1_step (k m : Nat) (s0 : Unit) (s1 : List (TCut)) (s2 : Int) (x0 : Int) (x1 : (List (Int)) × (Unit)) : L_oppartput_1 k s0 s1 s2 (m + 1) (x0, x1, ()) =
  (br (decide (x0 < s2))
   (br (inB x0 (List.length s1))
    (bd (F_opwritername k x1 (List.getD s1 (Int.toNat x0) (((0 : Int), ((0 : Int), ())), ((0 : Int), ((0 : Int), ())))).1) (fun (r : (Unit) × (((List (Int)) × (Unit)) × (Unit))) => (bd (F_opwriternums k r.2.1 ((List.getD s1 (Int.toNat x0) (((0 : Int), ((0 : Int), ())), ((0 : Int), ((0 : Int), ())))).2.1 :: ((List.getD s1 (Int.toNat x0) (((0 : Int), ((0 : Int), ())), ((0 : Int), ((0 : Int), ())))).2.2.1 :: ([] : List (Int))))) (fun (r1 : (Unit) × (((List (Int)) × (Unit)) × (Unit))) => (L_oppartput_1 k s0 s1 s2 m ((IntKind.wrap (IntKind.i64) (x0 + (1 : Int))), (r1.2.1, ())))))))
    none)
   (some (.brk (x0, (x1, ()))))) := by kernel_rfl

theorem F_oppartput_step (k : Nat) (a0 : Int) (a1 : (List (Int)) × (Unit)) (a2 : TOp) : F_oppartput (k + 1) a0 a1 a2 =
  (br (a0 == (0 : Int))
   (bd (F_opwritername k a1 a2.2.2.2.1) (fun (r : (Unit) × (((List (Int)) × (Unit)) × (Unit))) => (some ((), (r.2.1, ())))))
   (br (a0 == (1 : Int))
    (bd (F_opwritername k a1 a2.2.2.2.2.2.2.1) (fun (r : (Unit) × (((List (Int)) × (Unit)) × (Unit))) => (bd (F_opwriterchar k r.2.1 a2.2.2.2.2.2.2.2.1) (fun (r1 : (Unit) × (((List (Int)) × (Unit)) × (Unit))) => (bd (F_opwriterchar k r1.2.1 a2.2.2.2.2.2.2.2.2.1) (fun (r2 : (Unit) × (((List (Int)) × (Unit)) × (Unit))) => (some ((), (r2.2.1, ())))))))))
    (br (a0 == (2 : Int))
     (bd (F_opwritername k a1 a2.2.2.2.2.1) (fun (r : (Unit) × (((List (Int)) × (Unit)) × (Unit))) => (bd (F_opwritertext k r.2.1 a2.2.2.2.2.2.1) (fun (r1 : (Unit) × (((List (Int)) × (Unit)) × (Unit))) => (some ((), (r1.2.1, ())))))))
     (br (a0 == (3 : Int))
      (bd (F_opwritertext k a1 a2.2.2.2.2.2.2.2.2.2.1) (fun (r : (Unit) × (((List (Int)) × (Unit)) × (Unit))) => (some ((), (r.2.1, ())))))
      (br (a0 == (4 : Int))
       (bd (F_opwriternums k a1 ((((List.length a2.2.2.2.2.2.2.2.2.2.2.1) : Nat) : Int) :: ([] : List (Int)))) (fun (r : (Unit) × (((List (Int)) × (Unit)) × (Unit))) => (bdL (L_oppartput_1 k () a2.2.2.2.2.2.2.2.2.2.2.1 (((List.length a2.2.2.2.2.2.2.2.2.2.2.1) : Nat) : Int) k ((0 : Int), (r.2.1, ())))
         (fun (b : (Int) × (((List (Int)) × (Unit)) × (Unit))) => (some ((), (b.2.1, ()))))
         (fun (j : Nat) => (fun (b : (Int) × (((List (Int)) × (Unit)) × (Unit))) => (br (Nat.beq j (0 : Nat))
          (some ((), (b.2.1, ())))
          none)))
         (fun (q : Unit) => (fun (b : ((List (Int)) × (Unit)) × (Unit)) => (some (q, (b.1, ()))))))))
       (br (a0 == (5 : Int))
        (br a2.2.2.2.2.2.2.2.2.2.2.2.1
         (bd (F_opwriternums k a1 ((1 : Int) :: ([] : List (Int)))) (fun (r : (Unit) × (((List (Int)) × (Unit)) × (Unit))) => (some ((), (r.2.1, ())))))
         (bd (F_opwriternums k a1 ((0 : Int) :: ([] : List (Int)))) (fun (r : (Unit) × (((List (Int)) × (Unit)) × (Unit))) => (some ((), (r.2.1, ()))))))
        (some ((), (a1, ()))))))))) := by kernel_rfl

theorem F_opbare_step (k : Nat) (a0 : TOp) : F_opbare (k + 1) a0 =
  (some (((a0.1, (a0.2.1, (a0.2.2.1, (((0 : Int), ((0 : Int), ())), (((0 : Int), ((0 : Int), ())), (([] : List UInt8), (((0 : Int), ((0 : Int), ())), ((((0 : Int), ((0 : Int), ())), ((0 : Int), ())), ((((0 : Int), ((0 : Int), ())), ((0 : Int), ())), (([] : List UInt8), (([] : List (TCut)), (false, ())))))))))))), ()), ())) := by kernel_rfl

noncomputable def L_slicesEqualapiCut_0 (k : Nat) (s0 : List (TCut)) (s1 : List (TCut)) (s2 : Int) : Nat → (Bool) × ((Int) × (Unit)) → Option (LO ((Bool) × (Unit)) ((Bool) × ((Int) × (Unit))) (Unit)) :=
  loopF true 0 26 68000000 67 cut68000000_67_0 (s0, s1, s2, ()) (fun σ K => bodyAt E0 (fnE E0 k) (inl5 E0 (fnE E0 k) k) 67 (rvOf 67) k (codeOf 67 0) _ σ K)

theorem L_slicesEqualapiCut_0_step (k m : Nat) (s0 : List (TCut)) (s1 : List (TCut)) (s2 : Int) (x0 : Bool) (x1 : Int) : L_slicesEqualapiCut_0 k s0 s1 s2 (m + 1) (x0, x1, ()) =
  (br (decide (x1 < s2))
   (br (inB x1 (List.length s0))
    (br (inB x1 (List.length s1))
     (br (!(denEq (.pair (.pair (.int .i64) (.pair (.int .i64) .unit)) (.pair (.int .i64) (.pair (.int .i64) .unit))) (List.getD s0 (Int.toNat x1) (((0 : Int), ((0 : Int), ())), ((0 : Int), ((0 : Int), ())))) (List.getD s1 (Int.toNat x1) (((0 : Int), ((0 : Int), ())), ((0 : Int), ((0 : Int), ()))))))
       (some (.ret (false, ()) ()))
       (L_slicesEqualapiCut_0 k s0 s1 s2 m (x0, ((IntKind.wrap (IntKind.i64) (x1 + (1 : Int))), ()))))
     none)
    none)
   (some (.brk (x0, (x1, ()))))) :=
 (show L_slicesEqualapiCut_0 k s0 s1 s2 (m + 1) (x0, x1, ()) =
  (br (decide (x1 < s2))
   (br (inB x1 (List.length s0))
    (br (inB x1 (List.length s1))
     (both
      (br (!(denEq (.pair (.pair (.int .i64) (.pair (.int .i64) .unit)) (.pair (.int .i64) (.pair (.int .i64) .unit))) (List.getD s0 (Int.toNat x1) (((0 : Int), ((0 : Int), ())), ((0 : Int), ((0 : Int), ())))) (List.getD s1 (Int.toNat x1) (((0 : Int), ((0 : Int), ())), ((0 : Int), ((0 : Int), ()))))))
       (some (.ret (false, ()) ()))
       (L_slicesEqualapiCut_0 k s0 s1 s2 m (x0, ((IntKind.wrap (IntKind.i64) (x1 + (1 : Int))), ()))))
      (br (!(denEq (.pair (.pair (.int .i64) (.pair (.int .i64) .unit)) (.pair (.int .i64) (.pair (.int .i64) .unit))) (List.getD s0 (Int.toNat x1) (((0 : Int), ((0 : Int), ())), ((0 : Int), ((0 : Int), ())))) (List.getD s1 (Int.toNat x1) (((0 : Int), ((0 : Int), ())), ((0 : Int), ((0 : Int), ()))))))
       (some (.ret (false, ()) ()))
       (L_slicesEqualapiCut_0 k s0 s1 s2 m (x0, ((IntKind.wrap (IntKind.i64) (x1 + (1 : Int))), ())))))
     none)
    none)
   (some (.brk (x0, (x1, ()))))) by kernel_rfl).trans (by simp only [both_self])

theorem F_slicesEqualapiCut_step (k : Nat) (a0 : List (TCut)) (a1 : List (TCut)) : F_slicesEqualapiCut (k + 1) a0 a1 =
  (br ((((List.length a0) : Nat) : Int) != (((List.length a1) : Nat) : Int))
   (some ((false, ()), ()))
   (bdL (L_slicesEqualapiCut_0 k a0 a1 (((List.length a0) : Nat) : Int) k (false, ((0 : Int), ())))
    (fun (b : (Bool) × ((Int) × (Unit))) => (some ((true, ()), ())))
    (fun (j : Nat) => (fun (b : (Bool) × ((Int) × (Unit))) => none))
    (fun (q : (Bool) × (Unit)) => (fun (b : Unit) => (some (q, ())))))) := by kernel_rfl

theorem F_slicesCloneapiCut_step (k : Nat) (a0 : List (TCut)) : F_slicesCloneapiCut (k + 1) a0 =
  (bthN (List.length a0)
   (some ((([] : List (TCut)), ()), ()))
   (br (decide ((((0 : Nat) + (List.length a0)) * (32 : Nat)) ≤ (140737488355328 : Nat)))
    (some ((a0, ()), ()))
    none)) := by kernel_rfl

theorem F_oppartcopy_step (k : Nat) (a0 : Int) (a1 : TOp) (a2 : TOp) : F_oppartcopy (k + 1) a0 a1 a2 =
  (br (a0 == (0 : Int))
   (some ((), ((a1.1, (a1.2.1, (a1.2.2.1, (a2.2.2.2.1, a1.2.2.2.2)))), ())))
   (br (a0 == (1 : Int))
    (some ((), ((a1.1, (a1.2.1, (a1.2.2.1, (a1.2.2.2.1, (a1.2.2.2.2.1, (a1.2.2.2.2.2.1, (a2.2.2.2.2.2.2.1, (a2.2.2.2.2.2.2.2.1, (a2.2.2.2.2.2.2.2.2.1, a1.2.2.2.2.2.2.2.2.2))))))))), ())))
    (br (a0 == (2 : Int))
     (some ((), ((a1.1, (a1.2.1, (a1.2.2.1, (a1.2.2.2.1, (a2.2.2.2.2.1, (a2.2.2.2.2.2.1, a1.2.2.2.2.2.2)))))), ())))
     (br (a0 == (3 : Int))
      (some ((), ((a1.1, (a1.2.1, (a1.2.2.1, (a1.2.2.2.1, (a1.2.2.2.2.1, (a1.2.2.2.2.2.1, (a1.2.2.2.2.2.2.1, (a1.2.2.2.2.2.2.2.1, (a1.2.2.2.2.2.2.2.2.1, (a2.2.2.2.2.2.2.2.2.2.1, a1.2.2.2.2.2.2.2.2.2.2)))))))))), ())))
      (br (a0 == (4 : Int))
       (bd (F_slicesCloneapiCut k a2.2.2.2.2.2.2.2.2.2.2.1) (fun (r : ((List (TCut)) × (Unit)) × (Unit)) => (some ((), ((a1.1, (a1.2.1, (a1.2.2.1, (a1.2.2.2.1, (a1.2.2.2.2.1, (a1.2.2.2.2.2.1, (a1.2.2.2.2.2.2.1, (a1.2.2.2.2.2.2.2.1, (a1.2.2.2.2.2.2.2.2.1, (a1.2.2.2.2.2.2.2.2.2.1, (r.1.1, a1.2.2.2.2.2.2.2.2.2.2.2))))))))))), ())))))
       (br (a0 == (5 : Int))
        (some ((), ((a1.1, (a1.2.1, (a1.2.2.1, (a1.2.2.2.1, (a1.2.2.2.2.1, (a1.2.2.2.2.2.1, (a1.2.2.2.2.2.2.1, (a1.2.2.2.2.2.2.2.1, (a1.2.2.2.2.2.2.2.2.1, (a1.2.2.2.2.2.2.2.2.2.1, (a1.2.2.2.2.2.2.2.2.2.2.1, (a2.2.2.2.2.2.2.2.2.2.2.2.1, a1.2.2.2.2.2.2.2.2.2.2.2.2)))))))))))), ())))
        (some ((), (a1, ()))))))))) :=
 (show F_oppartcopy (k + 1) a0 a1 a2 =
  (br (a0 == (0 : Int))
   (some ((), ((a1.1, (a1.2.1, (a1.2.2.1, (a2.2.2.2.1, a1.2.2.2.2)))), ())))
   (br (a0 == (1 : Int))
    (both
     (both
      (both
       (some ((), ((a1.1, (a1.2.1, (a1.2.2.1, (a1.2.2.2.1, (a1.2.2.2.2.1, (a1.2.2.2.2.2.1, (a2.2.2.2.2.2.2.1, (a2.2.2.2.2.2.2.2.1, (a2.2.2.2.2.2.2.2.2.1, a1.2.2.2.2.2.2.2.2.2))))))))), ())))
       (both
        (some ((), ((a1.1, (a1.2.1, (a1.2.2.1, (a1.2.2.2.1, (a1.2.2.2.2.1, (a1.2.2.2.2.2.1, (a2.2.2.2.2.2.2.1, (a2.2.2.2.2.2.2.2.1, (a2.2.2.2.2.2.2.2.2.1, a1.2.2.2.2.2.2.2.2.2))))))))), ())))
        (some ((), ((a1.1, (a1.2.1, (a1.2.2.1, (a1.2.2.2.1, (a1.2.2.2.2.1, (a1.2.2.2.2.2.1, (a2.2.2.2.2.2.2.1, (a2.2.2.2.2.2.2.2.1, (a2.2.2.2.2.2.2.2.2.1, a1.2.2.2.2.2.2.2.2.2))))))))), ())))))
      (both
       (both
        (some ((), ((a1.1, (a1.2.1, (a1.2.2.1, (a1.2.2.2.1, (a1.2.2.2.2.1, (a1.2.2.2.2.2.1, (a2.2.2.2.2.2.2.1, (a2.2.2.2.2.2.2.2.1, (a2.2.2.2.2.2.2.2.2.1, a1.2.2.2.2.2.2.2.2.2))))))))), ())))
        (some ((), ((a1.1, (a1.2.1, (a1.2.2.1, (a1.2.2.2.1, (a1.2.2.2.2.1, (a1.2.2.2.2.2.1, (a2.2.2.2.2.2.2.1, (a2.2.2.2.2.2.2.2.1, (a2.2.2.2.2.2.2.2.2.1, a1.2.2.2.2.2.2.2.2.2))))))))), ()))))
       (both
        (both
         (some ((), ((a1.1, (a1.2.1, (a1.2.2.1, (a1.2.2.2.1, (a1.2.2.2.2.1, (a1.2.2.2.2.2.1, (a2.2.2.2.2.2.2.1, (a2.2.2.2.2.2.2.2.1, (a2.2.2.2.2.2.2.2.2.1, a1.2.2.2.2.2.2.2.2.2))))))))), ())))
         (some ((), ((a1.1, (a1.2.1, (a1.2.2.1, (a1.2.2.2.1, (a1.2.2.2.2.1, (a1.2.2.2.2.2.1, (a2.2.2.2.2.2.2.1, (a2.2.2.2.2.2.2.2.1, (a2.2.2.2.2.2.2.2.2.1, a1.2.2.2.2.2.2.2.2.2))))))))), ()))))
        (some ((), ((a1.1, (a1.2.1, (a1.2.2.1, (a1.2.2.2.1, (a1.2.2.2.2.1, (a1.2.2.2.2.2.1, (a2.2.2.2.2.2.2.1, (a2.2.2.2.2.2.2.2.1, (a2.2.2.2.2.2.2.2.2.1, a1.2.2.2.2.2.2.2.2.2))))))))), ()))))))
     (both
      (both
       (both
        (some ((), ((a1.1, (a1.2.1, (a1.2.2.1, (a1.2.2.2.1, (a1.2.2.2.2.1, (a1.2.2.2.2.2.1, (a2.2.2.2.2.2.2.1, (a2.2.2.2.2.2.2.2.1, (a2.2.2.2.2.2.2.2.2.1, a1.2.2.2.2.2.2.2.2.2))))))))), ())))
        (both
         (some ((), ((a1.1, (a1.2.1, (a1.2.2.1, (a1.2.2.2.1, (a1.2.2.2.2.1, (a1.2.2.2.2.2.1, (a2.2.2.2.2.2.2.1, (a2.2.2.2.2.2.2.2.1, (a2.2.2.2.2.2.2.2.2.1, a1.2.2.2.2.2.2.2.2.2))))))))), ())))
         (some ((), ((a1.1, (a1.2.1, (a1.2.2.1, (a1.2.2.2.1, (a1.2.2.2.2.1, (a1.2.2.2.2.2.1, (a2.2.2.2.2.2.2.1, (a2.2.2.2.2.2.2.2.1, (a2.2.2.2.2.2.2.2.2.1, a1.2.2.2.2.2.2.2.2.2))))))))), ())))))
       (some ((), ((a1.1, (a1.2.1, (a1.2.2.1, (a1.2.2.2.1, (a1.2.2.2.2.1, (a1.2.2.2.2.2.1, (a2.2.2.2.2.2.2.1, (a2.2.2.2.2.2.2.2.1, (a2.2.2.2.2.2.2.2.2.1, a1.2.2.2.2.2.2.2.2.2))))))))), ()))))
      (both
       (both
        (some ((), ((a1.1, (a1.2.1, (a1.2.2.1, (a1.2.2.2.1, (a1.2.2.2.2.1, (a1.2.2.2.2.2.1, (a2.2.2.2.2.2.2.1, (a2.2.2.2.2.2.2.2.1, (a2.2.2.2.2.2.2.2.2.1, a1.2.2.2.2.2.2.2.2.2))))))))), ())))
        (some ((), ((a1.1, (a1.2.1, (a1.2.2.1, (a1.2.2.2.1, (a1.2.2.2.2.1, (a1.2.2.2.2.2.1, (a2.2.2.2.2.2.2.1, (a2.2.2.2.2.2.2.2.1, (a2.2.2.2.2.2.2.2.2.1, a1.2.2.2.2.2.2.2.2.2))))))))), ()))))
       (some ((), ((a1.1, (a1.2.1, (a1.2.2.1, (a1.2.2.2.1, (a1.2.2.2.2.1, (a1.2.2.2.2.2.1, (a2.2.2.2.2.2.2.1, (a2.2.2.2.2.2.2.2.1, (a2.2.2.2.2.2.2.2.2.1, a1.2.2.2.2.2.2.2.2.2))))))))), ()))))))
    (br (a0 == (2 : Int))
     (both
      (both
       (some ((), ((a1.1, (a1.2.1, (a1.2.2.1, (a1.2.2.2.1, (a2.2.2.2.2.1, (a2.2.2.2.2.2.1, a1.2.2.2.2.2.2)))))), ())))
       (some ((), ((a1.1, (a1.2.1, (a1.2.2.1, (a1.2.2.2.1, (a2.2.2.2.2.1, (a2.2.2.2.2.2.1, a1.2.2.2.2.2.2)))))), ()))))
      (some ((), ((a1.1, (a1.2.1, (a1.2.2.1, (a1.2.2.2.1, (a2.2.2.2.2.1, (a2.2.2.2.2.2.1, a1.2.2.2.2.2.2)))))), ()))))
     (br (a0 == (3 : Int))
      (some ((), ((a1.1, (a1.2.1, (a1.2.2.1, (a1.2.2.2.1, (a1.2.2.2.2.1, (a1.2.2.2.2.2.1, (a1.2.2.2.2.2.2.1, (a1.2.2.2.2.2.2.2.1, (a1.2.2.2.2.2.2.2.2.1, (a2.2.2.2.2.2.2.2.2.2.1, a1.2.2.2.2.2.2.2.2.2.2)))))))))), ())))
      (br (a0 == (4 : Int))
       (bd (F_slicesCloneapiCut k a2.2.2.2.2.2.2.2.2.2.2.1) (fun (r : ((List (TCut)) × (Unit)) × (Unit)) => (some ((), ((a1.1, (a1.2.1, (a1.2.2.1, (a1.2.2.2.1, (a1.2.2.2.2.1, (a1.2.2.2.2.2.1, (a1.2.2.2.2.2.2.1, (a1.2.2.2.2.2.2.2.1, (a1.2.2.2.2.2.2.2.2.1, (a1.2.2.2.2.2.2.2.2.2.1, (r.1.1, a1.2.2.2.2.2.2.2.2.2.2.2))))))))))), ())))))
       (br (a0 == (5 : Int))
        (some ((), ((a1.1, (a1.2.1, (a1.2.2.1, (a1.2.2.2.1, (a1.2.2.2.2.1, (a1.2.2.2.2.2.1, (a1.2.2.2.2.2.2.1, (a1.2.2.2.2.2.2.2.1, (a1.2.2.2.2.2.2.2.2.1, (a1.2.2.2.2.2.2.2.2.2.1, (a1.2.2.2.2.2.2.2.2.2.2.1, (a2.2.2.2.2.2.2.2.2.2.2.2.1, a1.2.2.2.2.2.2.2.2.2.2.2.2)))))))))))), ())))
        (some ((), (a1, ()))))))))) by kernel_rfl).trans (by simp only [both_self])

noncomputable def L_slicesIndexapiId_0 (k : Nat) (s0 : List (TId)) (s1 : TId) (s2 : Int) : Nat → TId → Option (LO ((Int) × (Unit)) (TId) (Unit)) :=
  loopF true 0 19 96000000 95 cut96000000_95_0 (s0, s1, s2, ()) (fun σ K => bodyAt E0 (fnE E0 k) (inl5 E0 (fnE E0 k) k) 95 (rvOf 95) k (codeOf 95 0) _ σ K)

theorem L_slicesIndexapiId_0_step (k m : Nat) (s0 : List (TId)) (s1 : TId) (s2 : Int) (x0 : Int) (x1 : Int) : L_slicesIndexapiId_0 k s0 s1 s2 (m + 1) (x0, x1, ()) =
  (br (decide (x1 < s2))
   (br (inB x1 (List.length s0))
    (br (denEq (.pair (.int .i64) (.pair (.int .i64) .unit)) s1 (List.getD s0 (Int.toNat x1) ((0 : Int), ((0 : Int), ()))))
      (some (.ret (x1, ()) ()))
      (L_slicesIndexapiId_0 k s0 s1 s2 m (x0, ((IntKind.wrap (IntKind.i64) (x1 + (1 : Int))), ()))))
    none)
   (some (.brk (x0, (x1, ()))))) :=
 (show L_slicesIndexapiId_0 k s0 s1 s2 (m + 1) (x0, x1, ()) =
  (br (decide (x1 < s2))
   (br (inB x1 (List.length s0))
    (both
     (br (denEq (.pair (.int .i64) (.pair (.int .i64) .unit)) s1 (List.getD s0 (Int.toNat x1) ((0 : Int), ((0 : Int), ()))))
      (some (.ret (x1, ()) ()))
      (L_slicesIndexapiId_0 k s0 s1 s2 m (x0, ((IntKind.wrap (IntKind.i64) (x1 + (1 : Int))), ()))))
     (br (denEq (.pair (.int .i64) (.pair (.int .i64) .unit)) s1 (List.getD s0 (Int.toNat x1) ((0 : Int), ((0 : Int), ()))))
      (some (.ret (x1, ()) ()))
      (L_slicesIndexapiId_0 k s0 s1 s2 m (x0, ((IntKind.wrap (IntKind.i64) (x1 + (1 : Int))), ())))))
    none)
   (some (.brk (x0, (x1, ()))))) by kernel_rfl).trans (by simp only [both_self])

theorem F_slicesIndexapiId_step (k : Nat) (a0 : List (TId)) (a1 : TId) : F_slicesIndexapiId (k + 1) a0 a1 =
  (bdL (L_slicesIndexapiId_0 k a0 a1 (((List.length a0) : Nat) : Int) k ((0 : Int), ((0 : Int), ())))
   (fun (b : TId) => (some (((-1 : Int), ()), ())))
   (fun (j : Nat) => (fun (b : TId) => none))
   (fun (q : (Int) × (Unit)) => (fun (b : Unit) => (some (q, ()))))) := by kernel_rfl

theorem F_slicesContainsapiId_step (k : Nat) (a0 : List (TId)) (a1 : TId) : F_slicesContainsapiId (k + 1) a0 a1 =
  (bd (F_slicesIndexapiId k a0 a1) (fun (r : ((Int) × (Unit)) × (Unit)) => (some (((decide (r.1.1 ≥ (0 : Int))), ()), ())))) := by kernel_rfl

noncomputable def L_oppartright_62_7_slicesIndexFuncapiCut_0 (k : Nat) (s0 : List (TCut)) (s1 : Unit) (s2 : Int) : Nat → TId → Option (LO ((Int) × (Unit)) (TId) (Unit)) :=
  loopF true 0 19 61063008000000 114 cut61063008000000_114_0 (s0, s1, s2, ()) (fun σ K => bodyAt E0 (fnE E0 k) (inl3 E0 (fnE E0 k) k) 114 (rvOf 114) k (codeOf 114 0) _ σ K)

theorem L_oppartright_62_7_slicesIndexFuncapiCut_0_step (k m : Nat) (s0 : List (TCut)) (s1 : Unit) (s2 : Int) (x0 : Int) (x1 : Int) : L_oppartright_62_7_slicesIndexFuncapiCut_0 k s0 s1 s2 (m + 1) (x0, x1, ()) =
  (br (decide (x1 < s2))
   (br (inB x1 (List.length s0))
    (bd (F_oprightCut k (List.getD s0 (Int.toNat x1) (((0 : Int), ((0 : Int), ())), ((0 : Int), ((0 : Int), ()))))) (fun (r : ((Bool) × (Unit)) × (Unit)) => (br (!r.1.1)
      (some (.ret (x1, ()) ()))
      (L_oppartright_62_7_slicesIndexFuncapiCut_0 k s0 s1 s2 m (x0, ((IntKind.wrap (IntKind.i64) (x1 + (1 : Int))), ()))))))
    none)
   (some (.brk (x0, (x1, ()))))) := by kernel_rfl

theorem F_oppartright_step (k : Nat) (a0 : Int) (a1 : TOp) : F_oppartright (k + 1) a0 a1 =
  (br (a0 == (0 : Int))
   (bd (F_stampRightOp k a1.2.2.2.1) (fun (r : ((Bool) × (Unit)) × (Unit)) => (some ((r.1.1, ()), ()))))
   (br (a0 == (1 : Int))
    (bd (F_stampRightOp k a1.2.2.2.2.2.2.1) (fun (r : ((Bool) × (Unit)) × (Unit)) => (br r.1.1
      (bd (F_stampRightChar k a1.2.2.2.2.2.2.2.1) (fun (r1 : ((Bool) × (Unit)) × (Unit)) => (br (cond true r1.1.1 false)
        (bd (F_stampRightChar k a1.2.2.2.2.2.2.2.2.1) (fun (r2 : ((Bool) × (Unit)) × (Unit)) => (some ((r2.1.1, ()), ()))))
        (some ((false, ()), ())))))
      (some ((false, ()), ())))))
    (br (a0 == (2 : Int))
     (bd (F_stampRightBlock k a1.2.2.2.2.1) (fun (r : ((Bool) × (Unit)) × (Unit)) => (br r.1.1
       (bd (F_fracRight k a1.2.2.2.2.2.1) (fun (r1 : ((Bool) × (Unit)) × (Unit)) => (some ((r1.1.1, ()), ()))))
       (some ((false, ()), ())))))
     (br (a0 == (3 : Int))
      (some (((cond (!(a1.2.2.2.2.2.2.2.2.2.1 == ([] : List UInt8))) (decide ((((List.length a1.2.2.2.2.2.2.2.2.2.1) : Nat) : Int) ≤ (64 : Int))) false), ()), ()))
      (br (a0 == (4 : Int))
       (br (cond (decide ((((List.length a1.2.2.2.2.2.2.2.2.2.2.1) : Nat) : Int) > (0 : Int))) (decide ((((List.length a1.2.2.2.2.2.2.2.2.2.2.1) : Nat) : Int) ≤ (16 : Int))) false)
        (bdL (L_oppartright_62_7_slicesIndexFuncapiCut_0 k a1.2.2.2.2.2.2.2.2.2.2.1 () (((List.length a1.2.2.2.2.2.2.2.2.2.2.1) : Nat) : Int) k ((0 : Int), ((0 : Int), ())))
         (fun (b : TId) => (some ((true, ()), ())))
         (fun (j : Nat) => (fun (b : TId) => none))
         (fun (q : (Int) × (Unit)) => (fun (b : Unit) => (some (((cond true (!(decide (q.1 ≥ (0 : Int)))) false), ()), ())))))
        (some ((false, ()), ())))
       (some ((true, ()), ()))))))) := by kernel_rfl

theorem F_opreadernum_step (k : Nat) (a0 : (Cur) × (Unit)) : F_opreadernum (k + 1) a0 =
  (bd (F_numCursorNum k a0.1 (281474976710656 : Int)) (fun (r : ((Int) × (Unit)) × ((Cur) × (Unit))) => (some ((r.1.1, ()), (r.2.1, ()))))) := by kernel_rfl

theorem F_opreadername_step (k : Nat) (a0 : (Cur) × (Unit)) : F_opreadername (k + 1) a0 =
  (bd (F_opreadernum k (a0.1, ())) (fun (r : ((Int) × (Unit)) × ((Cur) × (Unit))) => (bd (F_opreadernum k (r.2.1, ())) (fun (r1 : ((Int) × (Unit)) × ((Cur) × (Unit))) => (some (((r.1.1, (r1.1.1, ())), ()), (r1.2.1, ()))))))) := by kernel_rfl

theorem F_opreaderchar_step (k : Nat) (a0 : (Cur) × (Unit)) : F_opreaderchar (k + 1) a0 =
  (bd (F_opreadername k (a0.1, ())) (fun (r : ((TId) × (Unit)) × ((Cur) × (Unit))) => (bd (F_opreadernum k (r.2.1, ())) (fun (r1 : ((Int) × (Unit)) × ((Cur) × (Unit))) => (some (((r.1.1, (r1.1.1, ())), ()), (r1.2.1, ()))))))) :=
 (show F_opreaderchar (k + 1) a0 =
  (bd (F_opreadername k (a0.1, ())) (fun (r : ((TId) × (Unit)) × ((Cur) × (Unit))) => (both
    (bd (F_opreadernum k (r.2.1, ())) (fun (r1 : ((Int) × (Unit)) × ((Cur) × (Unit))) => (some (((r.1.1, (r1.1.1, ())), ()), (r1.2.1, ())))))
    (both
     (bd (F_opreadernum k (r.2.1, ())) (fun (r1 : ((Int) × (Unit)) × ((Cur) × (Unit))) => (some (((r.1.1, (r1.1.1, ())), ()), (r1.2.1, ())))))
     (bd (F_opreadernum k (r.2.1, ())) (fun (r1 : ((Int) × (Unit)) × ((Cur) × (Unit))) => (some (((r.1.1, (r1.1.1, ())), ()), (r1.2.1, ()))))))))) by kernel_rfl).trans (by simp only [both_self])

theorem F_opreadercut_step (k : Nat) (a0 : (Cur) × (Unit)) : F_opreadercut (k + 1) a0 =
  (bd (F_opreadername k (a0.1, ())) (fun (r : ((TId) × (Unit)) × ((Cur) × (Unit))) => (bd (F_opreadernum k (r.2.1, ())) (fun (r1 : ((Int) × (Unit)) × ((Cur) × (Unit))) => (bd (F_opreadernum k (r1.2.1, ())) (fun (r2 : ((Int) × (Unit)) × ((Cur) × (Unit))) => (some (((r.1.1, (r1.1.1, (r2.1.1, ()))), ()), (r2.2.1, ()))))))))) := by kernel_rfl

noncomputable def L_opparttake_1 (k : Nat) (s0 : Unit) (s1 : Unit) (s2 : Unit) : Nat → (Int) × ((Cur) × ((TOp) × (((Unit) × (Unit)) × (Unit)))) → Option (LO (Unit) ((Int) × ((Cur) × ((TOp) × (((Unit) × (Unit)) × (Unit))))) ((Cur) × ((TOp) × (((Cur) × (Unit)) × (Unit))))) :=
  loopF true 1 84 66000000 65 cut66000000_65_1 (s0, s1, s2, ()) (fun σ K => bodyAt E0 (fnE E0 k) (inl5 E0 (fnE E0 k) k) 65 (rvOf 65) k (codeOf 65 1) _ σ K)

theorem L_opparttake_1_step (k m : Nat) (s0 : Unit) (s1 : Unit) (s2 : Unit) (x0 : Int) (x1 : Cur) (x2 : TOp) (x3 : (Unit) × (Unit)) : L_opparttake_1 k s0 s1 s2 (m + 1) (x0, x1, x2, x3, ()) =
  (br (decide (x0 > (0 : Int)))
   (bd (F_opreadercut k (x1, ())) (fun (r : ((TCut) × (Unit)) × ((Cur) × (Unit))) => (br (decide ((((List.length x2.2.2.2.2.2.2.2.2.2.2.1) + (List.length (r.1.1 :: ([] : List (TCut))))) * (32 : Nat)) ≤ (140737488355328 : Nat)))
      (L_opparttake_1 k s0 s1 s2 m ((IntKind.wrap (IntKind.i64) (x0 - (1 : Int))), (r.2.1, ((x2.1, (x2.2.1, (x2.2.2.1, (x2.2.2.2.1, (x2.2.2.2.2.1, (x2.2.2.2.2.2.1, (x2.2.2.2.2.2.2.1, (x2.2.2.2.2.2.2.2.1, (x2.2.2.2.2.2.2.2.2.1, (x2.2.2.2.2.2.2.2.2.2.1, ((x2.2.2.2.2.2.2.2.2.2.2.1 ++ (r.1.1 :: ([] : List (TCut)))), x2.2.2.2.2.2.2.2.2.2.2.2))))))))))), (x3, ())))))
      none)))
   (some (.brk (x0, (x1, (x2, (x3, ()))))))) :=
 (show L_opparttake_1 k s0 s1 s2 (m + 1) (x0, x1, x2, x3, ()) =
  (br (decide (x0 > (0 : Int)))
   (bd (F_opreadercut k (x1, ())) (fun (r : ((TCut) × (Unit)) × ((Cur) × (Unit))) => (both
     (br (decide ((((List.length x2.2.2.2.2.2.2.2.2.2.2.1) + (List.length (r.1.1 :: ([] : List (TCut))))) * (32 : Nat)) ≤ (140737488355328 : Nat)))
      (L_opparttake_1 k s0 s1 s2 m ((IntKind.wrap (IntKind.i64) (x0 - (1 : Int))), (r.2.1, ((x2.1, (x2.2.1, (x2.2.2.1, (x2.2.2.2.1, (x2.2.2.2.2.1, (x2.2.2.2.2.2.1, (x2.2.2.2.2.2.2.1, (x2.2.2.2.2.2.2.2.1, (x2.2.2.2.2.2.2.2.2.1, (x2.2.2.2.2.2.2.2.2.2.1, ((x2.2.2.2.2.2.2.2.2.2.2.1 ++ (r.1.1 :: ([] : List (TCut)))), x2.2.2.2.2.2.2.2.2.2.2.2))))))))))), (x3, ())))))
      none)
     (both
      (br (decide ((((List.length x2.2.2.2.2.2.2.2.2.2.2.1) + (List.length (r.1.1 :: ([] : List (TCut))))) * (32 : Nat)) ≤ (140737488355328 : Nat)))
       (L_opparttake_1 k s0 s1 s2 m ((IntKind.wrap (IntKind.i64) (x0 - (1 : Int))), (r.2.1, ((x2.1, (x2.2.1, (x2.2.2.1, (x2.2.2.2.1, (x2.2.2.2.2.1, (x2.2.2.2.2.2.1, (x2.2.2.2.2.2.2.1, (x2.2.2.2.2.2.2.2.1, (x2.2.2.2.2.2.2.2.2.1, (x2.2.2.2.2.2.2.2.2.2.1, ((x2.2.2.2.2.2.2.2.2.2.2.1 ++ (r.1.1 :: ([] : List (TCut)))), x2.2.2.2.2.2.2.2.2.2.2.2))))))))))), (x3, ())))))
       none)
      (br (decide ((((List.length x2.2.2.2.2.2.2.2.2.2.2.1) + (List.length (r.1.1 :: ([] : List (TCut))))) * (32 : Nat)) ≤ (140737488355328 : Nat)))
       (L_opparttake_1 k s0 s1 s2 m ((IntKind.wrap (IntKind.i64) (x0 - (1 : Int))), (r.2.1, ((x2.1, (x2.2.1, (x2.2.2.1, (x2.2.2.2.1, (x2.2.2.2.2.1, (x2.2.2.2.2.2.1, (x2.2.2.2.2.2.2.1, (x2.2.2.2.2.2.2.2.1, (x2.2.2.2.2.2.2.2.2.1, (x2.2.2.2.2.2.2.2.2.2.1, ((x2.2.2.2.2.2.2.2.2.2.2.1 ++ (r.1.1 :: ([] : List (TCut)))), x2.2.2.2.2.2.2.2.2.2.2.2))))))))))), (x3, ())))))
       none)))))
   (some (.brk (x0, (x1, (x2, (x3, ()))))))) by kernel_rfl).trans (by simp only [both_self])

theorem F_opparttake_step (k : Nat) (a0 : Int) (a1 : (Cur) × (Unit)) (a2 : TOp) : F_opparttake (k + 1) a0 a1 a2 =
  (br (a0 == (0 : Int))
   (bd (F_opreadername k (a1.1, ())) (fun (r : ((TId) × (Unit)) × ((Cur) × (Unit))) => (some ((), (r.2.1, ((a2.1, (a2.2.1, (a2.2.2.1, (r.1.1, a2.2.2.2.2)))), ()))))))
   (br (a0 == (1 : Int))
    (bd (F_opreadername k (a1.1, ())) (fun (r : ((TId) × (Unit)) × ((Cur) × (Unit))) => (bd (F_opreaderchar k (r.2.1, ())) (fun (r1 : ((TChar) × (Unit)) × ((Cur) × (Unit))) => (bd (F_opreaderchar k (r1.2.1, ())) (fun (r2 : ((TChar) × (Unit)) × ((Cur) × (Unit))) => (some ((), (r2.2.1, ((a2.1, (a2.2.1, (a2.2.2.1, (a2.2.2.2.1, (a2.2.2.2.2.1, (a2.2.2.2.2.2.1, (r.1.1, (r1.1.1, (r2.1.1, a2.2.2.2.2.2.2.2.2.2))))))))), ()))))))))))
    (br (a0 == (2 : Int))
     (bd (F_opreadername k (a1.1, ())) (fun (r : ((TId) × (Unit)) × ((Cur) × (Unit))) => (bd (F_numCursorText k r.2.1 (281474976710656 : Int)) (fun (r1 : ((List (UInt8)) × (Unit)) × ((Cur) × (Unit))) => (some ((), (r1.2.1, ((a2.1, (a2.2.1, (a2.2.2.1, (a2.2.2.2.1, (r.1.1, (r1.1.1, a2.2.2.2.2.2.2)))))), ()))))))))
     (br (a0 == (3 : Int))
      (bd (F_numCursorText k a1.1 (281474976710656 : Int)) (fun (r : ((List (UInt8)) × (Unit)) × ((Cur) × (Unit))) => (some ((), (r.2.1, ((a2.1, (a2.2.1, (a2.2.2.1, (a2.2.2.2.1, (a2.2.2.2.2.1, (a2.2.2.2.2.2.1, (a2.2.2.2.2.2.2.1, (a2.2.2.2.2.2.2.2.1, (a2.2.2.2.2.2.2.2.2.1, (r.1.1, a2.2.2.2.2.2.2.2.2.2.2)))))))))), ()))))))
      (br (a0 == (4 : Int))
       (bd (F_numCursorNum k a1.1 (16 : Int)) (fun (r : ((Int) × (Unit)) × ((Cur) × (Unit))) => (bdL (L_opparttake_1 k () () () k (r.1.1, (r.2.1, (a2, (((), ()), ())))))
         (fun (b : (Int) × ((Cur) × ((TOp) × (((Unit) × (Unit)) × (Unit))))) => (some ((), (b.2.1, (b.2.2.1, ())))))
         (fun (j : Nat) => (fun (b : (Int) × ((Cur) × ((TOp) × (((Unit) × (Unit)) × (Unit))))) => (br (Nat.beq j (0 : Nat))
          (some ((), (b.2.1, (b.2.2.1, ()))))
          none)))
         (fun (q : Unit) => (fun (b : (Cur) × ((TOp) × (((Cur) × (Unit)) × (Unit)))) => (some (q, (b.1, (b.2.1, ())))))))))
       (br (a0 == (5 : Int))
        (bd (F_numCursorNum k a1.1 (1 : Int)) (fun (r : ((Int) × (Unit)) × ((Cur) × (Unit))) => (some ((), (r.2.1, ((a2.1, (a2.2.1, (a2.2.2.1, (a2.2.2.2.1, (a2.2.2.2.2.1, (a2.2.2.2.2.2.1, (a2.2.2.2.2.2.2.1, (a2.2.2.2.2.2.2.2.1, (a2.2.2.2.2.2.2.2.2.1, (a2.2.2.2.2.2.2.2.2.2.1, (a2.2.2.2.2.2.2.2.2.2.2.1, ((r.1.1 == (1 : Int)), a2.2.2.2.2.2.2.2.2.2.2.2.2)))))))))))), ()))))))
        (some ((), (a1.1, (a2, ())))))))))) := by kernel_rfl

theorem F_ref05num_step (k : Nat) (a0 : Int) : F_ref05num (k + 1) a0 =
  (bd (F_ref01Put k a0) (fun (r : (Cur) × (Unit)) => (some ((r.1.1, ()), ())))) := by kernel_rfl

theorem F_ref05name_step (k : Nat) (a0 : TId) : F_ref05name (k + 1) a0 =
  (bd (F_ref05num k a0.1) (fun (r : ((List (Int)) × (Unit)) × (Unit)) => (bd (F_ref05num k a0.2.1) (fun (r1 : ((List (Int)) × (Unit)) × (Unit)) => (br (decide ((((List.length r.1.1) + (List.length r1.1.1)) * (1 : Nat)) ≤ (140737488355328 : Nat)))
       (some (((r.1.1 ++ r1.1.1), ()), ()))
       none))))) :=
 (show F_ref05name (k + 1) a0 =
  (both
   (both
    (bd (F_ref05num k a0.1) (fun (r : ((List (Int)) × (Unit)) × (Unit)) => (bd (F_ref05num k a0.2.1) (fun (r1 : ((List (Int)) × (Unit)) × (Unit)) => (br (decide ((((List.length r.1.1) + (List.length r1.1.1)) * (1 : Nat)) ≤ (140737488355328 : Nat)))
       (some (((r.1.1 ++ r1.1.1), ()), ()))
       none)))))
    (bd (F_ref05num k a0.1) (fun (r : ((List (Int)) × (Unit)) × (Unit)) => (bd (F_ref05num k a0.2.1) (fun (r1 : ((List (Int)) × (Unit)) × (Unit)) => (br (decide ((((List.length r.1.1) + (List.length r1.1.1)) * (1 : Nat)) ≤ (140737488355328 : Nat)))
       (some (((r.1.1 ++ r1.1.1), ()), ()))
       none))))))
   (bd (F_ref05num k a0.1) (fun (r : ((List (Int)) × (Unit)) × (Unit)) => (bd (F_ref05num k a0.2.1) (fun (r1 : ((List (Int)) × (Unit)) × (Unit)) => (br (decide ((((List.length r.1.1) + (List.length r1.1.1)) * (1 : Nat)) ≤ (140737488355328 : Nat)))
      (some (((r.1.1 ++ r1.1.1), ()), ()))
      none)))))) by kernel_rfl).trans (by simp only [both_self])

theorem F_ref05char_step (k : Nat) (a0 : TChar) : F_ref05char (k + 1) a0 =
  (bd (F_ref05name k a0.1) (fun (r : ((List (Int)) × (Unit)) × (Unit)) => (bd (F_ref05num k a0.2.1) (fun (r1 : ((List (Int)) × (Unit)) × (Unit)) => (br (decide ((((List.length r.1.1) + (List.length r1.1.1)) * (1 : Nat)) ≤ (140737488355328 : Nat)))
       (some (((r.1.1 ++ r1.1.1), ()), ()))
       none))))) :=
 (show F_ref05char (k + 1) a0 =
  (both
   (both
    (bd (F_ref05name k a0.1) (fun (r : ((List (Int)) × (Unit)) × (Unit)) => (bd (F_ref05num k a0.2.1) (fun (r1 : ((List (Int)) × (Unit)) × (Unit)) => (br (decide ((((List.length r.1.1) + (List.length r1.1.1)) * (1 : Nat)) ≤ (140737488355328 : Nat)))
       (some (((r.1.1 ++ r1.1.1), ()), ()))
       none)))))
    (bd (F_ref05name k a0.1) (fun (r : ((List (Int)) × (Unit)) × (Unit)) => (bd (F_ref05num k a0.2.1) (fun (r1 : ((List (Int)) × (Unit)) × (Unit)) => (br (decide ((((List.length r.1.1) + (List.length r1.1.1)) * (1 : Nat)) ≤ (140737488355328 : Nat)))
       (some (((r.1.1 ++ r1.1.1), ()), ()))
       none))))))
   (bd (F_ref05name k a0.1) (fun (r : ((List (Int)) × (Unit)) × (Unit)) => (bd (F_ref05num k a0.2.1) (fun (r1 : ((List (Int)) × (Unit)) × (Unit)) => (br (decide ((((List.length r.1.1) + (List.length r1.1.1)) * (1 : Nat)) ≤ (140737488355328 : Nat)))
      (some (((r.1.1 ++ r1.1.1), ()), ()))
      none)))))) by kernel_rfl).trans (by simp only [both_self])

theorem F_ref05kept_step (k : Nat) (a0 : TOp) : F_ref05kept (k + 1) a0 =
  (br (a0.1 == (1 : Int))
   (some (((a0.1, (a0.2.1, (a0.2.2.1, (((0 : Int), ((0 : Int), ())), (a0.2.2.2.2.1, (a0.2.2.2.2.2.1, (((0 : Int), ((0 : Int), ())), ((((0 : Int), ((0 : Int), ())), ((0 : Int), ())), ((((0 : Int), ((0 : Int), ())), ((0 : Int), ())), (([] : List UInt8), (([] : List (TCut)), (false, ())))))))))))), ()), ()))
   (br (a0.1 == (2 : Int))
    (some (((a0.1, (a0.2.1, (a0.2.2.1, (a0.2.2.2.1, (a0.2.2.2.2.1, (a0.2.2.2.2.2.1, (((0 : Int), ((0 : Int), ())), ((((0 : Int), ((0 : Int), ())), ((0 : Int), ())), ((((0 : Int), ((0 : Int), ())), ((0 : Int), ())), (([] : List UInt8), (([] : List (TCut)), (false, ())))))))))))), ()), ()))
    (br (a0.1 == (3 : Int))
     (some (((a0.1, (a0.2.1, (a0.2.2.1, (((0 : Int), ((0 : Int), ())), (((0 : Int), ((0 : Int), ())), (([] : List UInt8), (a0.2.2.2.2.2.2.1, (a0.2.2.2.2.2.2.2.1, (a0.2.2.2.2.2.2.2.2.1, (a0.2.2.2.2.2.2.2.2.2.1, (([] : List (TCut)), (false, ())))))))))))), ()), ()))
     (br (a0.1 == (4 : Int))
      (some (((a0.1, (a0.2.1, (a0.2.2.1, (((0 : Int), ((0 : Int), ())), (((0 : Int), ((0 : Int), ())), (([] : List UInt8), (((0 : Int), ((0 : Int), ())), ((((0 : Int), ((0 : Int), ())), ((0 : Int), ())), ((((0 : Int), ((0 : Int), ())), ((0 : Int), ())), (([] : List UInt8), (a0.2.2.2.2.2.2.2.2.2.2.1, (false, ())))))))))))), ()), ()))
      (br (a0.1 == (5 : Int))
       (some (((a0.1, (a0.2.1, (a0.2.2.1, (((0 : Int), ((0 : Int), ())), (a0.2.2.2.2.1, (a0.2.2.2.2.2.1, (a0.2.2.2.2.2.2.1, (a0.2.2.2.2.2.2.2.1, (a0.2.2.2.2.2.2.2.2.1, (([] : List UInt8), (([] : List (TCut)), (false, ())))))))))))), ()), ()))
       (br (a0.1 == (6 : Int))
        (some (((a0.1, (a0.2.1, (a0.2.2.1, (a0.2.2.2.1, (((0 : Int), ((0 : Int), ())), (([] : List UInt8), (((0 : Int), ((0 : Int), ())), ((((0 : Int), ((0 : Int), ())), ((0 : Int), ())), ((((0 : Int), ((0 : Int), ())), ((0 : Int), ())), (([] : List UInt8), (([] : List (TCut)), (a0.2.2.2.2.2.2.2.2.2.2.2.1, ())))))))))))), ()), ()))
        (some (((a0.1, (a0.2.1, (a0.2.2.1, (((0 : Int), ((0 : Int), ())), (((0 : Int), ((0 : Int), ())), (([] : List UInt8), (((0 : Int), ((0 : Int), ())), ((((0 : Int), ((0 : Int), ())), ((0 : Int), ())), ((((0 : Int), ((0 : Int), ())), ((0 : Int), ())), (([] : List UInt8), (([] : List (TCut)), (false, ())))))))))))), ()), ())))))))) := by kernel_rfl

end Go.Proofs.YtkfikongenapfaaDoor.E

namespace Go.Proofs.YtkfikongenapfaaDoor.E
open Go
set_option linter.unusedSimpArgs false
set_option linter.unusedVariables false
/-! small words -/
@[simp] theorem cond_f (x y : Bool) : cond x y false = (x && y) := by cases x <;> rfl
@[simp] theorem cond_t (x y : Bool) : cond x true y = (x || y) := by cases x <;> rfl
theorem i_lt {i n : Nat} (h : i < n) : decide ((i : Int) < (n : Int)) = true := by simp; omega

theorem i_ge (n : Nat) : decide ((n : Int) < (n : Int)) = false := by simp

theorem i_in {i n : Nat} (h : i < n) : inB (i : Int) n = true := inB_t ⟨by omega, by omega⟩

theorem i_nx {i : Nat} (h : i < 4611686018427387904) : IntKind.i64.wrap ((i : Int) + 1) = ((i + 1 : Nat) : Int) := by
  rw [IntWalk.i64_in _ ⟨by omega, by omega⟩]; omega

theorem beqF {n c : Int} (h : ¬ n = c) : (n == c) = false := by simp [h]

theorem cast_ne (n : Nat) : (((n : Nat) : Int) != 0) = !(n == 0) := by cases n <;> simp <;> omega

theorem getD_of {α : Type} {l : List α} {i : Nat} (h : i < l.length) (d : α) : List.getD l (Int.toNat (i : Int)) d = l[i] := by simp [List.getD, h]

/-- a run along a row, that may end early -/
def runL {S A R : Type} (f : S → A → S ⊕ R) : S → List A → S ⊕ R
  | s, [] => .inl s
  | s, x :: l => match f s x with
    | .inl s => runL f s l
    | .inr r => .inr r

theorem for_run {S A R : Type} {L : Nat → Int → S → Option R} {l : List A} (f : S → A → S ⊕ R) (fin : S → R) (I : Nat → S → Prop)
    (hs : ∀ m i s, (h : i < l.length) → I i s → L (m + 1) (i : Int) s = (match f s l[i] with | .inl s' => L m ((i + 1 : Nat) : Int) s' | .inr r => some r) ∧ ∀ s', f s l[i] = .inl s' → I (i + 1) s')
    (he : ∀ m s, I l.length s → L (m + 1) (l.length : Int) s = some (fin s)) :
    ∀ m i s, i ≤ l.length → l.length - i < m → I i s → L m (i : Int) s = some (match runL f s (l.drop i) with | .inl s => fin s | .inr r => r)
  | 0, i, s, _, h, _ => by omega
  | m + 1, i, s, h1, h2, h3 => by
    by_cases h : i < l.length
    · obtain ⟨e1, e2⟩ := hs m i s h h3
      rw [e1, List.drop_eq_getElem_cons h]
      simp only [runL]
      cases hf : f s l[i] with
      | inl s' => exact for_run f fin I hs he m (i + 1) s' (by omega) (by omega) (e2 s' hf)
      | inr r => rfl
    · have : i = l.length := by omega
      subst this
      rw [he m s h3]; simp [runL]

theorem for_run0 {S A R : Type} {L : Nat → Int → S → Option R} {l : List A} (f : S → A → S ⊕ R) (fin : S → R) (I : Nat → S → Prop)
    (hs : ∀ m i s, (h : i < l.length) → I i s → L (m + 1) (i : Int) s = (match f s l[i] with | .inl s' => L m ((i + 1 : Nat) : Int) s' | .inr r => some r) ∧ ∀ s', f s l[i] = .inl s' → I (i + 1) s')
    (he : ∀ m s, I l.length s → L (m + 1) (l.length : Int) s = some (fin s)) (m : Nat) (s : S) (hm : l.length < m) (h0 : I 0 s) :
    L m 0 s = some (match runL f s l with | .inl s => fin s | .inr r => r) := by
  have := for_run f fin I hs he m 0 s (by omega) (by omega) h0
  simpa using this

theorem runL_fold {S A R : Type} (f : S → A → S) : ∀ (l : List A) (s : S), runL (R := R) (fun s x => .inl (f s x)) s l = .inl (l.foldl f s)
  | [], s => rfl
  | x :: l, s => by simp only [runL, List.foldl_cons]; exact runL_fold f l (f s x)

theorem denEq_iff : ∀ {t : Ty} {a b : den t}, eqTy t = true → (denEq t a b = true ↔ a = b)
  | .int _, a, b, _ => by simp [denEq]
  | .bool, a, b, _ => by
    show boolEq a b = true ↔ a = b
    cases a <;> cases b <;> simp [boolEq]
  | .str, a, b, _ => by
    show (a == b) = true ↔ a = b
    simp
  | .unit, a, b, _ => by simp [denEq]
  | .pair s t, a, b, h => by
    simp only [eqTy, Bool.and_eq_true] at h
    simp only [denEq, Bool.and_eq_true]
    rw [denEq_iff h.1, denEq_iff h.2]
    exact Prod.ext_iff.symm
  | .arr _ _, _, _, h | .sl _ _, _, _, h | .ptr _ _, _, _, h | .ref _ _, _, _, h | .map _ _ _, _, _, h | .hole _, _, _, h | .raw _ _, _, _, h | .nils, _, _, h | .nilp, _, _, h => by simp [eqTy] at h

theorem dec_of {p : Prop} [Decidable p] {b : Bool} (h : b = true ↔ p) : b = decide p := by
  cases b with
  | true => simp [h.1 rfl]
  | false => symm; simp; exact fun hp => by have := h.2 hp; cases this

@[simp] theorem eqI (a b : TId) : denEq (.pair (.int .i64) (.pair (.int .i64) .unit)) a b = decide (a = b) := dec_of (denEq_iff rfl)
@[simp] theorem eqC (a b : TChar) : denEq (.pair (.pair (.int .i64) (.pair (.int .i64) .unit)) (.pair (.int .i64) .unit)) a b = decide (a = b) := dec_of (denEq_iff rfl)
@[simp] theorem eqK (a b : TCut) : denEq (.pair (.pair (.int .i64) (.pair (.int .i64) .unit)) (.pair (.int .i64) (.pair (.int .i64) .unit))) a b = decide (a = b) := dec_of (denEq_iff rfl)
/-! what is right -/
def rightOp (i : TId) : Bool := decide (i.1 ≥ 0) && decide (i.1 < 16) && decide (i.2.1 ≥ 1) && decide (i.2.1 ≤ 1048576)

def rightBlock (i : TId) : Bool := decide (i = (0, 0, ())) || decide (i = (1, 0, ())) || rightOp i

def rightKey (k : List UInt8) : Bool := !(k == []) && decide (k.length ≤ 32) && !((List.getD k (k.length - 1) 0).toNat == 0)

def rightChar (c : TChar) : Bool := decide (c = ((0, 0, ()), 0, ())) || (rightOp c.1 && decide (c.2.1 ≥ 0) && decide (c.2.1 < 64))

def rightCut (c : TCut) : Bool := rightOp c.1 && decide (c.2.1 ≥ 0) && decide (c.2.1 < c.2.2.1) && decide (c.2.2.1 ≤ 64)

def rightStamp (i : TId) : Bool := decide (i.1 ≥ 1) && decide (i.1 ≤ 1099511627776) && decide (i.2.1 ≥ 0) && decide (i.2.1 < 16)

theorem F_stampRightOp_eq (k : Nat) (i : TId) : F_stampRightOp (k + 1) i = some ((rightOp i, ()), ()) := by
  rw [F_stampRightOp_step]; simp [rightOp]

theorem F_ref03RightOp_eq (k : Nat) (i : TId) : F_ref03RightOp (k + 1) i = some ((rightOp i, ()), ()) := by
  rw [F_ref03RightOp_step]
  have : decide (i.1 ≤ 15) = decide (i.1 < 16) := by apply decide_eq_decide.2; omega
  simp [rightOp, this]

theorem F_stampRightStamp_eq (k : Nat) (i : TId) : F_stampRightStamp (k + 1) i = some ((rightStamp i, ()), ()) := by
  rw [F_stampRightStamp_step]; simp [rightStamp]

theorem F_stampRightBlock_eq (k : Nat) (i : TId) : F_stampRightBlock (k + 2) i = some ((rightBlock i, ()), ()) := by
  rw [F_stampRightBlock_step, F_stampRightOp_eq]
  simp only [bd_s, eqI, cond_t, rightBlock]
  by_cases h : (decide (i = (0, 0, ())) || decide (i = (1, 0, ()))) = true
  · rw [br_t h, h]; rfl
  · rw [br_f (by simpa using h)]
    have : (decide (i = (0, 0, ())) || decide (i = (1, 0, ()))) = false := by simpa using h
    rw [this]; rfl

theorem F_ref03RightBlock_eq (k : Nat) (i : TId) : F_ref03RightBlock (k + 2) i = some ((rightBlock i, ()), ()) := by
  rw [F_ref03RightBlock_step, F_ref03RightOp_eq]
  simp only [bd_s, cond_t, cond_f, rightBlock]
  obtain ⟨a, b, u⟩ := i
  simp only
  have e : (b == 0 && (a == 0 || a == 1)) = (decide ((a, b, u) = ((0, 0, ()) : TId)) || decide ((a, b, u) = ((1, 0, ()) : TId))) := by
    by_cases hb : b = 0
    · by_cases h0 : a = 0
      · simp [hb, h0]
      · by_cases h1 : a = 1 <;> simp [hb, h0, h1]
    · simp [hb]
  rw [e, Bool.or_comm]

theorem F_fracRight_eq (k : Nat) (s : List UInt8) : F_fracRight (k + 1) s = some ((rightKey s, ()), ()) := by
  rw [F_fracRight_step]
  simp only [cond_f, Bool.cond_true, rightKey]
  by_cases h : s = []
  · subst h; simp
  · have hl : 0 < s.length := List.length_pos_iff.2 h
    have hs : (s == []) = false := by simp [h]
    by_cases h2 : s.length ≤ 32
    · rw [br_t (by simp [hs]; omega)]
      have hw : IntKind.i64.wrap ((s.length : Int) - 1) = ((s.length - 1 : Nat) : Int) := by
        rw [IntWalk.i64_in _ ⟨by omega, by omega⟩]; omega
      rw [hw, br_t (i_in (by omega)), Int.toNat_natCast]
      simp [hs, h2, cast_ne]
    · rw [br_f (by simp; omega)]
      simp [hs, h2]

theorem F_ref04Right_eq (k : Nat) (s : List UInt8) : F_ref04Right (k + 1) s = some ((rightKey s, ()), ()) := by
  rw [F_ref04Right_step]
  simp only [cond_f, Bool.cond_true, rightKey]
  by_cases h : s = []
  · subst h; simp
  · have hl : 0 < s.length := List.length_pos_iff.2 h
    have hs : (s == []) = false := by simp [h]
    by_cases h2 : s.length ≤ 32
    · rw [br_t (by simp; omega)]
      have hw : IntKind.i64.wrap ((s.length : Int) - 1) = ((s.length - 1 : Nat) : Int) := by
        rw [IntWalk.i64_in _ ⟨by omega, by omega⟩]; omega
      rw [hw, br_t (i_in (by omega)), Int.toNat_natCast]
      simp [hs, h2, cast_ne]
    · rw [br_f (by simp; omega)]
      simp [hs, h2]

theorem F_stampRightChar_eq (k : Nat) (c : TChar) : F_stampRightChar (k + 2) c = some ((rightChar c, ()), ()) := by
  rw [F_stampRightChar_step, F_stampRightOp_eq]
  simp only [bd_s, eqC, cond_t, cond_f, rightChar]
  by_cases h : c = ((0, 0, ()), 0, ())
  · rw [br_t (by simp [h])]; simp [h]
  · rw [br_f (by simp [h])]; simp [h]

theorem F_ref03RightChar_eq (k : Nat) (c : TChar) : F_ref03RightChar (k + 2) c = some ((rightChar c, ()), ()) := by
  rw [F_ref03RightChar_step, F_ref03RightOp_eq]
  have : decide (c.2.1 ≤ 63) = decide (c.2.1 < 64) := by apply decide_eq_decide.2; omega
  simp only [bd_s, eqC, cond_t, cond_f, rightChar, this]
  by_cases h : c = ((0, 0, ()), 0, ())
  · rw [br_t (by simp [h])]; simp [h]
  · rw [br_f (by simp [h])]; simp [h]

theorem F_oprightCut_eq (k : Nat) (c : TCut) : F_oprightCut (k + 2) c = some ((rightCut c, ()), ()) := by
  rw [F_oprightCut_step, F_stampRightOp_eq]
  simp only [bd_s, cond_f, rightCut]

/-! parts -/
def parts (k : Int) : List Int :=
  if k = 1 then [2] else if k = 2 then [0, 2] else if k = 3 then [1, 3] else if k = 4 then [4] else if k = 5 then [1, 2] else if k = 6 then [0, 5] else []

theorem F_opparts_eq (k : Nat) (n : Int) : F_opparts (k + 1) n = some ((parts n, ()), ()) := by
  rw [F_opparts_step]
  unfold parts
  by_cases h1 : n = 1
  · simp [h1]
  by_cases h2 : n = 2
  · simp [h2]
  by_cases h3 : n = 3
  · simp [h3]
  by_cases h4 : n = 4
  · simp [h4]
  by_cases h5 : n = 5
  · simp [h5]
  by_cases h6 : n = 6
  · simp [h6]
  simp [beqF h1, beqF h2, beqF h3, beqF h4, beqF h5, beqF h6, h1, h2, h3, h4, h5, h6]

def partRight (p : Int) : TOp → Bool
  | (kd, i, t, blk, par, key, seg, lf, rt, tx, cu, fl, _) =>
    if p = 0 then rightOp blk
    else if p = 1 then rightOp seg && rightChar lf && rightChar rt
    else if p = 2 then rightBlock par && rightKey key
    else if p = 3 then !(tx == []) && decide (tx.length ≤ 64)
    else if p = 4 then decide (0 < cu.length) && decide (cu.length ≤ 16) && cu.all rightCut
    else true

def partCopy (p : Int) : TOp → TOp → TOp
  | (kd, i, t, blk, par, key, seg, lf, rt, tx, cu, fl, _), (_, _, _, blk', par', key', seg', lf', rt', tx', cu', fl', _) =>
    if p = 0 then (kd, i, t, blk', par, key, seg, lf, rt, tx, cu, fl, ())
    else if p = 1 then (kd, i, t, blk, par, key, seg', lf', rt', tx, cu, fl, ())
    else if p = 2 then (kd, i, t, blk, par', key', seg, lf, rt, tx, cu, fl, ())
    else if p = 3 then (kd, i, t, blk, par, key, seg, lf, rt, tx', cu, fl, ())
    else if p = 4 then (kd, i, t, blk, par, key, seg, lf, rt, tx, cu', fl, ())
    else if p = 5 then (kd, i, t, blk, par, key, seg, lf, rt, tx, cu, fl', ())
    else (kd, i, t, blk, par, key, seg, lf, rt, tx, cu, fl, ())

theorem index_cut (k : Nat) (l : List TCut) (hl : l.length ≤ 16) (m : Nat) (hm : l.length < m) :
    (∃ b, L_oppartright_62_7_slicesIndexFuncapiCut_0 (k + 2) l () (l.length : Int) m (0, (0, ())) = some (.brk b) ∧ l.all rightCut = true) ∨
    (∃ i : Nat, L_oppartright_62_7_slicesIndexFuncapiCut_0 (k + 2) l () (l.length : Int) m (0, (0, ())) = some (.ret ((i : Int), ()) ()) ∧ l.all rightCut = false) := by
  suffices h : ∀ (m i : Nat), i ≤ l.length → l.length - i < m →
      (∃ b, L_oppartright_62_7_slicesIndexFuncapiCut_0 (k + 2) l () (l.length : Int) m (0, ((i : Int), ())) = some (.brk b) ∧ (l.drop i).all rightCut = true) ∨
      (∃ j : Nat, L_oppartright_62_7_slicesIndexFuncapiCut_0 (k + 2) l () (l.length : Int) m (0, ((i : Int), ())) = some (.ret ((j : Int), ()) ()) ∧ (l.drop i).all rightCut = false) by
    simpa using h m 0 (by omega) (by omega)
  intro m
  induction m with
  | zero => intro i _ h; omega
  | succ m ih =>
    intro i h1 h2
    rw [L_oppartright_62_7_slicesIndexFuncapiCut_0_step]
    by_cases h : i < l.length
    · rw [br_t (i_lt h), br_t (i_in h), getD_of h, F_oprightCut_eq, i_nx (by omega), List.drop_eq_getElem_cons h]
      simp only [bd_s, List.all_cons]
      cases hc : rightCut l[i] with
      | false => exact .inr ⟨i, rfl, rfl⟩
      | true =>
        rcases ih (i + 1) (by omega) (by omega) with ⟨b, e, e2⟩ | ⟨j, e, e2⟩
        · exact .inl ⟨b, by simpa using e, by simpa using e2⟩
        · exact .inr ⟨j, by simpa using e, by simpa using e2⟩
    · have : i = l.length := by omega
      subst this
      rw [br_f (i_ge _)]
      exact .inl ⟨_, rfl, by simp⟩

theorem F_oppartright_eq (k : Nat) (p : Int) (o : TOp) : F_oppartright (k + 20) p o = some ((partRight p o, ()), ()) := by
  obtain ⟨kd, i, t, blk, par, key, seg, lf, rt, tx, cu, fl, u⟩ := o
  rw [F_oppartright_step]
  unfold partRight
  dsimp only
  by_cases h0 : p = 0
  · simp [h0, F_stampRightOp_eq]
  by_cases h1 : p = 1
  · rw [if_neg h0, if_pos h1, br_f (by simpa using h0), br_t (by simpa using h1), F_stampRightOp_eq]
    simp only [bd_s, F_stampRightChar_eq, cond_f, Bool.true_and]
    cases rightOp seg <;> cases rightChar lf <;> cases rightChar rt <;> rfl
  by_cases h2 : p = 2
  · rw [if_neg h0, if_neg h1, if_pos h2, br_f (by simpa using h0), br_f (by simpa using h1), br_t (by simpa using h2), F_stampRightBlock_eq]
    simp only [bd_s, F_fracRight_eq]
    cases rightBlock par <;> cases rightKey key <;> rfl
  by_cases h3 : p = 3
  · rw [if_neg h0, if_neg h1, if_neg h2, if_pos h3, br_f (by simpa using h0), br_f (by simpa using h1), br_f (by simpa using h2), br_t (by simpa using h3)]
    have : decide ((tx.length : Int) ≤ 64) = decide (tx.length ≤ 64) := by apply decide_eq_decide.2; omega
    simp [this]
  by_cases h4 : p = 4
  · rw [if_neg h0, if_neg h1, if_neg h2, if_neg h3, if_pos h4, br_f (by simpa using h0), br_f (by simpa using h1), br_f (by simpa using h2), br_f (by simpa using h3), br_t (by simpa using h4)]
    simp only [cond_f]
    by_cases hc : 0 < cu.length ∧ cu.length ≤ 16
    · rw [br_t (by simp; omega)]
      have e1 : decide (0 < cu.length) = true := by simpa using hc.1
      have e2 : decide (cu.length ≤ 16) = true := by simpa using hc.2
      rcases index_cut (k + 17) cu hc.2 (k + 19) (by omega) with ⟨b, e, ea⟩ | ⟨j, e, ea⟩
      · rw [show k + 17 + 2 = k + 19 from rfl] at e
        rw [e]; simp [e1, e2, ea]
      · rw [show k + 17 + 2 = k + 19 from rfl] at e
        rw [e]; simp [e1, e2, ea]
    · rw [br_f (by simp; omega)]
      have : (decide (0 < cu.length) && decide (cu.length ≤ 16)) = false := by simp; omega
      rw [this]; rfl
  · rw [if_neg h0, if_neg h1, if_neg h2, if_neg h3, if_neg h4, br_f (by simpa using h0), br_f (by simpa using h1), br_f (by simpa using h2), br_f (by simpa using h3), br_f (by simpa using h4)]

theorem F_slicesCloneapiCut_eq (k : Nat) (l : List TCut) (h : l.length ≤ 1000000) : F_slicesCloneapiCut (k + 1) l = some ((l, ()), ()) := by
  rw [F_slicesCloneapiCut_step, br_t (by simp; omega)]
  cases l with
  | nil => exact both_same
  | cons a l => rfl

theorem F_oppartcopy_eq (k : Nat) (p : Int) (own o : TOp) (h : p = 4 → o.2.2.2.2.2.2.2.2.2.2.1.length ≤ 1000000) : F_oppartcopy (k + 2) p own o = some ((), (partCopy p own o, ())) := by
  obtain ⟨kd, i, t, blk, par, key, seg, lf, rt, tx, cu, fl, u⟩ := own
  obtain ⟨kd', i', t', blk', par', key', seg', lf', rt', tx', cu', fl', u'⟩ := o
  rw [F_oppartcopy_step]
  unfold partCopy
  dsimp only at h ⊢
  by_cases h0 : p = 0
  · simp [h0]
  by_cases h1 : p = 1
  · simp [h1]
  by_cases h2 : p = 2
  · simp [h2]
  by_cases h3 : p = 3
  · simp [h3]
  by_cases h4 : p = 4
  · rw [F_slicesCloneapiCut_eq _ _ (h h4)]; simp [h4]
  by_cases h5 : p = 5
  · simp [h5]
  · simp [beqF h0, beqF h1, beqF h2, beqF h3, beqF h4, beqF h5, h0, h1, h2, h3, h4, h5]

def bare (o : TOp) : TOp := (o.1, o.2.1, o.2.2.1, (0, 0, ()), (0, 0, ()), [], (0, 0, ()), ((0, 0, ()), 0, ()), ((0, 0, ()), 0, ()), [], [], false, ())

theorem F_opbare_eq (k : Nat) (o : TOp) : F_opbare (k + 1) o = some ((bare o, ()), ()) := by rw [F_opbare_step]; rfl

theorem F_slicesEqualapiCut_eq (k : Nat) (a b : List TCut) (hk : a.length = b.length → a.length < k ∧ a.length ≤ 4611686018427387903) : F_slicesEqualapiCut (k + 1) a b = some ((decide (a = b), ()), ()) := by
  rw [F_slicesEqualapiCut_step]
  by_cases hl : a.length = b.length
  · obtain ⟨h1, h2⟩ := hk hl
    rw [br_f (by simp [hl])]
    have key : ∀ (m i : Nat), i ≤ a.length → a.length - i < m →
        ((∃ x, L_slicesEqualapiCut_0 k a b (a.length : Int) m (false, ((i : Int), ())) = some (.brk x)) ∧ a.drop i = b.drop i) ∨
        (L_slicesEqualapiCut_0 k a b (a.length : Int) m (false, ((i : Int), ())) = some (.ret (false, ()) ()) ∧ a.drop i ≠ b.drop i) := by
      intro m
      induction m with
      | zero => intro i _ h; omega
      | succ m ih =>
        intro i h3 h4
        rw [L_slicesEqualapiCut_0_step]
        by_cases h : i < a.length
        · rw [br_t (i_lt h), br_t (i_in h), br_t (i_in (by omega)), getD_of h, getD_of (l := b) (by omega), i_nx (by omega), List.drop_eq_getElem_cons h, List.drop_eq_getElem_cons (l := b) (by omega)]
          simp only [eqK]
          by_cases he : a[i] = b[i]'(by omega)
          · rw [br_f (by simp [he])]
            rcases ih (i + 1) (by omega) (by omega) with ⟨x, e⟩ | ⟨x, e⟩
            · exact .inl ⟨x, by rw [he, e]⟩
            · exact .inr ⟨x, fun e' => e (List.cons.inj e').2⟩
          · rw [br_t (by simp [he])]
            exact .inr ⟨rfl, by intro e; exact he (List.cons.inj e).1⟩
        · have : i = a.length := by omega
          subst this
          rw [br_f (i_ge _)]
          refine .inl ⟨⟨_, rfl⟩, ?_⟩
          rw [List.drop_eq_nil_of_le (Nat.le_refl _), List.drop_eq_nil_of_le (by omega)]
    rcases key k 0 (by omega) (by omega) with ⟨⟨x, e⟩, e2⟩ | ⟨e, e2⟩
    · rw [show ((0 : Nat) : Int) = 0 from rfl] at e
      rw [e]
      simp at e2
      simp [e2]
    · rw [show ((0 : Nat) : Int) = 0 from rfl] at e
      rw [e]
      simp at e2
      simp [e2]
  · rw [br_t (by simp; omega)]
    have : a ≠ b := fun e => hl (by rw [e])
    simp [this]

end Go.Proofs.YtkfikongenapfaaDoor.E

namespace Go.Proofs.YtkfikongenapfaaDoor.E
open Go
set_option linter.unusedSimpArgs false
set_option linter.unusedVariables false
/-! what is put -/
def putN (n : Int) : List Int := if 0 ≤ n ∧ n ≤ 562949953421311 then putL n.toNat else []

theorem F_numPut_N (k : Nat) (n : Int) : ∃ b : Bool, F_numPut (k + 12) n = some ((putN n, (b, ())), ()) := by
  unfold putN
  by_cases h : 0 ≤ n ∧ n ≤ 562949953421311
  · rw [if_pos h]
    obtain ⟨m, rfl⟩ : ∃ m : Nat, n = (m : Int) := ⟨n.toNat, by omega⟩
    exact ⟨true, by rw [Int.toNat_natCast]; exact F_numPut_eq k m (by unfold most; omega)⟩
  · rw [if_neg h]
    exact ⟨false, F_numPut_no _ n (by omega)⟩

theorem F_ref01Put_N (k : Nat) (n : Int) : ∃ b : Bool, F_ref01Put (k + 12) n = some ((putN n, (b, ())), ()) := by
  unfold putN
  by_cases h : 0 ≤ n ∧ n ≤ 562949953421311
  · rw [if_pos h]
    obtain ⟨m, rfl⟩ : ∃ m : Nat, n = (m : Int) := ⟨n.toNat, by omega⟩
    exact ⟨true, by rw [Int.toNat_natCast]; exact F_ref01Put_eq k m (by unfold most; omega)⟩
  · rw [if_neg h]
    exact ⟨false, F_ref01Put_no _ n (by omega)⟩

theorem putN_len (n : Int) : (putN n).length ≤ 7 := by
  unfold putN
  split
  · rename_i h
    rw [putL_len]; exact sz_most (by unfold most; omega)
  · simp

def nameP (i : TId) : List Int := putN i.1 ++ putN i.2.1

def charP (c : TChar) : List Int := nameP c.1 ++ putN c.2.1

def cutP (c : TCut) : List Int := nameP c.1 ++ (putN c.2.1 ++ putN c.2.2.1)

def textP (s : List UInt8) : List Int := putL s.length ++ nums s

theorem nameP_len (i : TId) : (nameP i).length ≤ 14 := by
  have := putN_len i.1; have := putN_len i.2.1; unfold nameP; simp <;> omega

theorem charP_len (c : TChar) : (charP c).length ≤ 21 := by
  have := nameP_len c.1; have := putN_len c.2.1; unfold charP; simp <;> omega

theorem cutP_len (c : TCut) : (cutP c).length ≤ 28 := by
  have := nameP_len c.1; have := putN_len c.2.1; have := putN_len c.2.2.1; unfold cutP; simp <;> omega

theorem textP_len (s : List UInt8) (h : s.length ≤ 20000) : (textP s).length ≤ s.length + 7 := by
  have := sz_most (n := s.length) (by unfold most; omega)
  unfold textP
  simp [putL_len, nums]; omega

theorem foldl_app {α : Type} (g : α → List Int) : ∀ (l : List α) (s : List Int), l.foldl (fun s x => s ++ g x) s = s ++ (l.map g).flatten
  | [], s => by simp
  | x :: l, s => by simp [foldl_app g l, List.append_assoc]

theorem F_opwriternums_eq (k : Nat) (w : List Int) (l : List Int) (hw : w.length + 7 * l.length ≤ 1000000000) (hk : l.length < k + 12) : F_opwriternums (k + 13) (w, ()) l = some ((), ((w ++ (l.map putN).flatten, ()), ())) := by
  rw [F_opwriternums_step]
  have key := for_run0 (L := fun m i (s : List Int × Unit) => L_opwriternums_0 (k + 12) () l (l.length : Int) m (i, (s, ()))) (l := l) (R := LO Unit (Int × ((List Int × Unit) × Unit)) ((List Int × Unit) × Unit))
    (fun s x => .inl (s.1 ++ putN x, ())) (fun s => .brk ((l.length : Int), (s, ()))) (fun i s => s.1.length + 7 * (l.length - i) ≤ 1000000000)
    (fun m i s h hI => by
      constructor
      · show L_opwriternums_0 (k + 12) () l (l.length : Int) (m + 1) ((i : Int), (s, ())) = _
        rw [L_opwriternums_0_step, br_t (i_lt h), br_t (i_in h), getD_of h, i_nx (by omega)]
        obtain ⟨b, e⟩ := F_numPut_N k l[i]
        rw [e, bd_s]
        have := putN_len l[i]
        rw [br_t (by simp <;> omega)]
      · intro s' e
        have := putN_len l[i]
        simp only [Sum.inl.injEq] at e
        subst e
        simp <;> omega)
    (fun m s hI => by
      show L_opwriternums_0 (k + 12) () l (l.length : Int) (m + 1) ((l.length : Int), (s, ())) = _
      rw [L_opwriternums_0_step, br_f (i_ge _)])
    (k + 12) (w, ()) (by omega) (by simp <;> omega)
  rw [key, runL_fold]
  simp only [bdL_b]
  have : ∀ (l : List Int) (w : List Int), l.foldl (fun (s : List Int × Unit) x => (s.1 ++ putN x, ())) (w, ()) = (w ++ (l.map putN).flatten, ()) := by
    intro l
    induction l with
    | nil => intro w; simp
    | cons x l ih => intro w; simp [ih, List.append_assoc]
  rw [this]

theorem F_opwritername_eq (k : Nat) (w : List Int) (i : TId) (hw : w.length ≤ 900000000) : F_opwritername (k + 14) (w, ()) i = some ((), ((w ++ nameP i, ()), ())) := by
  rw [F_opwritername_step, F_opwriternums_eq _ _ _ (by simp <;> omega) (by simp <;> omega)]
  simp [nameP]

theorem F_opwriterchar_eq (k : Nat) (w : List Int) (c : TChar) (hw : w.length ≤ 800000000) : F_opwriterchar (k + 15) (w, ()) c = some ((), ((w ++ charP c, ()), ())) := by
  have := nameP_len c.1
  rw [F_opwriterchar_step, F_opwritername_eq _ _ _ (by omega)]
  simp only [bd_s]
  rw [F_opwriternums_eq _ _ _ (by simp <;> omega) (by simp <;> omega)]
  simp [charP]

theorem F_opwritertext_eq (k : Nat) (w : List Int) (s : List UInt8) (hw : w.length ≤ 800000000) (hs : s.length ≤ 20000) : F_opwritertext (k + 14) (w, ()) s = some ((), ((w ++ textP s, ()), ())) := by
  have := textP_len s hs
  rw [F_opwritertext_step, F_numPutText_eq _ _ hs]
  simp only [bd_s]
  change _ = some ((), ((w ++ (putL s.length ++ nums s), ()), ()))
  rw [br_t]
  have : (putL s.length ++ nums s).length ≤ s.length + 7 := this
  simp only [decide_eq_true_eq]
  omega

def partPut (p : Int) : TOp → List Int
  | (kd, i, t, blk, par, key, seg, lf, rt, tx, cu, fl, _) =>
    if p = 0 then nameP blk
    else if p = 1 then nameP seg ++ (charP lf ++ charP rt)
    else if p = 2 then nameP par ++ textP key
    else if p = 3 then textP tx
    else if p = 4 then putN cu.length ++ (cu.map cutP).flatten
    else if p = 5 then putN (if fl then 1 else 0)
    else []

theorem put_cuts (k : Nat) (l : List TCut) (w : List Int) (hl : l.length ≤ 1000) (hw : w.length ≤ 700000000) (m : Nat) (hm : l.length < m) :
    L_oppartput_1 (k + 14) () l (l.length : Int) m (0, ((w, ()), ())) = some (.brk ((l.length : Int), ((w ++ (l.map cutP).flatten, ()), ()))) := by
  have key := for_run0 (L := fun m i (s : List Int × Unit) => L_oppartput_1 (k + 14) () l (l.length : Int) m (i, (s, ()))) (l := l) (R := LO Unit (Int × ((List Int × Unit) × Unit)) ((List Int × Unit) × Unit))
    (fun s x => .inl (s.1 ++ cutP x, ())) (fun s => .brk ((l.length : Int), (s, ()))) (fun i s => s.1.length + 28 * (l.length - i) ≤ 800000000)
    (fun m i s h hI => by
      constructor
      · show L_oppartput_1 (k + 14) () l (l.length : Int) (m + 1) ((i : Int), (s, ())) = _
        rw [L_oppartput_1_step, br_t (i_lt h), br_t (i_in h), getD_of h, i_nx (by omega)]
        obtain ⟨s, u⟩ := s
        have := nameP_len l[i].1
        rw [F_opwritername_eq _ _ _ (by simp only at hI; omega)]
        simp only [bd_s]
        rw [F_opwriternums_eq _ _ _ (by simp at hI ⊢; omega) (by simp <;> omega)]
        simp [cutP]
      · intro s' e
        have := cutP_len l[i]
        simp only [Sum.inl.injEq] at e
        subst e
        simp <;> omega)
    (fun m s hI => by
      show L_oppartput_1 (k + 14) () l (l.length : Int) (m + 1) ((l.length : Int), (s, ())) = _
      rw [L_oppartput_1_step, br_f (i_ge _)])
    m (w, ()) (by omega) (by simp <;> omega)
  rw [key, runL_fold]
  have : ∀ (l : List TCut) (w : List Int), l.foldl (fun (s : List Int × Unit) x => (s.1 ++ cutP x, ())) (w, ()) = (w ++ (l.map cutP).flatten, ()) := by
    intro l
    induction l with
    | nil => intro w; simp
    | cons x l ih => intro w; simp [ih, List.append_assoc]
  rw [this]

/-- short enough to be put -/
def smallOp (o : TOp) : Prop := o.2.2.2.2.2.1.length ≤ 20000 ∧ o.2.2.2.2.2.2.2.2.2.1.length ≤ 20000 ∧ o.2.2.2.2.2.2.2.2.2.2.1.length ≤ 1000

theorem F_oppartput_eq (k : Nat) (p : Int) (w : List Int) (o : TOp) (hw : w.length ≤ 600000000) (ho : smallOp o) : F_oppartput (k + 1100) p (w, ()) o = some ((), ((w ++ partPut p o, ()), ())) := by
  obtain ⟨kd, i, t, blk, par, key, seg, lf, rt, tx, cu, fl, u⟩ := o
  obtain ⟨h1, h2, h3⟩ := ho
  simp only at h1 h2 h3
  rw [F_oppartput_step]
  unfold partPut
  dsimp only
  by_cases e0 : p = 0
  · rw [if_pos e0, br_t (by simpa using e0), F_opwritername_eq _ _ _ (by omega)]; simp
  rw [if_neg e0, br_f (by simpa using e0)]
  by_cases e1 : p = 1
  · have := nameP_len seg
    have := charP_len lf
    rw [if_pos e1, br_t (by simpa using e1), F_opwritername_eq _ _ _ (by omega)]
    simp only [bd_s]
    rw [F_opwriterchar_eq _ _ _ (by simp <;> omega)]
    simp only [bd_s]
    rw [F_opwriterchar_eq _ _ _ (by simp <;> omega)]
    simp
  rw [if_neg e1, br_f (by simpa using e1)]
  by_cases e2 : p = 2
  · have := nameP_len par
    rw [if_pos e2, br_t (by simpa using e2), F_opwritername_eq _ _ _ (by omega)]
    simp only [bd_s]
    rw [F_opwritertext_eq _ _ _ (by simp <;> omega) h1]
    simp
  rw [if_neg e2, br_f (by simpa using e2)]
  by_cases e3 : p = 3
  · rw [if_pos e3, br_t (by simpa using e3), F_opwritertext_eq _ _ _ (by omega) h2]; simp
  rw [if_neg e3, br_f (by simpa using e3)]
  by_cases e4 : p = 4
  · have := putN_len (cu.length : Int)
    rw [if_pos e4, br_t (by simpa using e4), F_opwriternums_eq _ _ _ (by simp <;> omega) (by simp <;> omega)]
    simp only [bd_s]
    have hc := put_cuts (k + 1085) cu (w ++ (List.map putN [(cu.length : Int)]).flatten) h3 (by simp <;> omega) (k + 1099) (by omega)
    rw [show k + 1085 + 14 = k + 1099 from rfl] at hc
    rw [hc]
    simp
  rw [if_neg e4, br_f (by simpa using e4)]
  by_cases e5 : p = 5
  · rw [if_pos e5, br_t (by simpa using e5)]
    cases fl with
    | true => rw [br_true, F_opwriternums_eq _ _ _ (by simp <;> omega) (by simp <;> omega)]; simp
    | false => rw [br_false, F_opwriternums_eq _ _ _ (by simp <;> omega) (by simp <;> omega)]; simp
  rw [if_neg e5, br_f (by simpa using e5)]
  simp

end Go.Proofs.YtkfikongenapfaaDoor.E

namespace Go.Proofs.YtkfikongenapfaaDoor.E
open Go
set_option linter.unusedSimpArgs false
set_option linter.unusedVariables false
/-! what is taken -/
abbrev great : Int := 281474976710656

def Fine (c : Cur) : Prop := Fit c ∧ c.1.length ≤ 140737488355328

theorem fine_num {c : Cur} (h : Fine c) (lim : Int) : Fine (numC c lim).2 := ⟨fit_num h.1 lim, Nat.le_trans (len_num c lim) h.2⟩

theorem fine_text {c : Cur} (h : Fine c) (lim : Int) : Fine (textC c lim).2 := ⟨fit_text h.1 lim, Nat.le_trans (len_text c lim) h.2⟩

theorem F_numCursorNum_F (k : Nat) {c : Cur} (lim : Int) (h : Fine c) : F_numCursorNum (k + 12) c lim = some (((numC c lim).1, ()), ((numC c lim).2, ())) := F_numCursorNum_eq k c lim h.1.1 h.2

theorem F_numCursorText_F (k : Nat) {c : Cur} (lim : Int) (h : Fine c) : F_numCursorText (k + 13) c lim = some (((textC c lim).1, ()), ((textC c lim).2, ())) := F_numCursorText_eq k c lim h.1.1 h.2

def nameG (c : Cur) : TId × Cur := (((numC c great).1, (numC (numC c great).2 great).1, ()), (numC (numC c great).2 great).2)

def charG (c : Cur) : TChar × Cur := (((nameG c).1, (numC (nameG c).2 great).1, ()), (numC (nameG c).2 great).2)

def cutG (c : Cur) : TCut × Cur := (((nameG c).1, (numC (nameG c).2 great).1, (numC (numC (nameG c).2 great).2 great).1, ()), (numC (numC (nameG c).2 great).2 great).2)

def cutsG : Nat → Cur → List TCut × Cur
  | 0, c => ([], c)
  | n + 1, c => ((cutG c).1 :: (cutsG n (cutG c).2).1, (cutsG n (cutG c).2).2)

theorem fine_name {c : Cur} (h : Fine c) : Fine (nameG c).2 := fine_num (fine_num h _) _

theorem fine_char {c : Cur} (h : Fine c) : Fine (charG c).2 := fine_num (fine_name h) _

theorem fine_cut {c : Cur} (h : Fine c) : Fine (cutG c).2 := fine_num (fine_num (fine_name h) _) _

theorem fine_cuts : ∀ {n : Nat} {c : Cur}, Fine c → Fine (cutsG n c).2
  | 0, _, h => h
  | n + 1, _, h => fine_cuts (n := n) (fine_cut h)

theorem cutsG_len : ∀ (n : Nat) (c : Cur), (cutsG n c).1.length = n
  | 0, _ => rfl
  | n + 1, c => by simp [cutsG, cutsG_len n]

theorem F_opreadernum_eq (k : Nat) {c : Cur} (h : Fine c) : F_opreadernum (k + 13) (c, ()) = some (((numC c great).1, ()), ((numC c great).2, ())) := by
  rw [F_opreadernum_step, F_numCursorNum_F _ _ h]; rfl

theorem F_opreadername_eq (k : Nat) {c : Cur} (h : Fine c) : F_opreadername (k + 14) (c, ()) = some (((nameG c).1, ()), ((nameG c).2, ())) := by
  rw [F_opreadername_step, F_opreadernum_eq _ h]
  simp only [bd_s]
  rw [F_opreadernum_eq _ (fine_num h _)]; rfl

theorem F_opreaderchar_eq (k : Nat) {c : Cur} (h : Fine c) : F_opreaderchar (k + 15) (c, ()) = some (((charG c).1, ()), ((charG c).2, ())) := by
  rw [F_opreaderchar_step, F_opreadername_eq _ h]
  simp only [bd_s]
  rw [F_opreadernum_eq _ (fine_name h)]; rfl

theorem F_opreadercut_eq (k : Nat) {c : Cur} (h : Fine c) : F_opreadercut (k + 15) (c, ()) = some (((cutG c).1, ()), ((cutG c).2, ())) := by
  rw [F_opreadercut_step, F_opreadername_eq _ h]
  simp only [bd_s]
  rw [F_opreadernum_eq _ (fine_name h)]
  simp only [bd_s]
  rw [F_opreadernum_eq _ (fine_num (fine_name h) _)]; rfl

def addCuts : TOp → List TCut → TOp
  | (kd, i, t, blk, par, key, seg, lf, rt, tx, cu, fl, _), l => (kd, i, t, blk, par, key, seg, lf, rt, tx, cu ++ l, fl, ())

def partGet (p : Int) (c : Cur) : TOp → Cur × TOp
  | (kd, i, t, blk, par, key, seg, lf, rt, tx, cu, fl, _) =>
    if p = 0 then ((nameG c).2, (kd, i, t, (nameG c).1, par, key, seg, lf, rt, tx, cu, fl, ()))
    else if p = 1 then ((charG (charG (nameG c).2).2).2, (kd, i, t, blk, par, key, (nameG c).1, (charG (nameG c).2).1, (charG (charG (nameG c).2).2).1, tx, cu, fl, ()))
    else if p = 2 then ((textC (nameG c).2 great).2, (kd, i, t, blk, (nameG c).1, (textC (nameG c).2 great).1, seg, lf, rt, tx, cu, fl, ()))
    else if p = 3 then ((textC c great).2, (kd, i, t, blk, par, key, seg, lf, rt, (textC c great).1, cu, fl, ()))
    else if p = 4 then ((cutsG (numC c 16).1.toNat (numC c 16).2).2, (kd, i, t, blk, par, key, seg, lf, rt, tx, cu ++ (cutsG (numC c 16).1.toNat (numC c 16).2).1, fl, ()))
    else if p = 5 then ((numC c 1).2, (kd, i, t, blk, par, key, seg, lf, rt, tx, cu, (numC c 1).1 == 1, ()))
    else (c, (kd, i, t, blk, par, key, seg, lf, rt, tx, cu, fl, ()))

theorem fine_get {p : Int} {c : Cur} {o : TOp} (h : Fine c) : Fine (partGet p c o).1 := by
  obtain ⟨kd, i, t, blk, par, key, seg, lf, rt, tx, cu, fl, u⟩ := o
  unfold partGet
  dsimp only
  split
  · exact fine_name h
  split
  · exact fine_char (fine_char (fine_name h))
  split
  · exact fine_text (fine_name h) _
  split
  · exact fine_text h _
  split
  · exact fine_cuts (fine_num h _)
  split
  · exact fine_num h _
  · exact h

theorem take_cuts (k : Nat) : ∀ (n m : Nat) (c : Cur) (o : TOp), n < m → n ≤ 16 → o.2.2.2.2.2.2.2.2.2.2.1.length + n ≤ 1000 → Fine c →
    L_opparttake_1 (k + 15) () () () m ((n : Int), (c, (o, (((), ()), ())))) = some (.brk ((0 : Int), ((cutsG n c).2, (addCuts o (cutsG n c).1, (((), ()), ())))))
  | _, 0, _, _, h, _, _, _ => by omega
  | 0, m + 1, c, o, _, _, _, _ => by
    rw [L_opparttake_1_step, br_f (by simp)]
    obtain ⟨kd, i, t, blk, par, key, seg, lf, rt, tx, cu, fl, u⟩ := o
    simp [cutsG, addCuts]
  | n + 1, m + 1, c, o, h1, h2, h3, h4 => by
    rw [L_opparttake_1_step, br_t (by simp <;> omega), F_opreadercut_eq _ h4]
    simp only [bd_s]
    rw [br_t (by simp <;> omega), IntWalk.i64_in _ ⟨by omega, by omega⟩, show (((n + 1 : Nat) : Int) - 1) = (n : Int) by omega]
    obtain ⟨kd, i, t, blk, par, key, seg, lf, rt, tx, cu, fl, u⟩ := o
    simp only at h3 ⊢
    have := take_cuts k n m (cutG c).2 (kd, i, t, blk, par, key, seg, lf, rt, tx, cu ++ [(cutG c).1], fl, ()) (by omega) (by omega) (by simp <;> omega) (fine_cut h4)
    rw [this]
    simp [cutsG, addCuts]

theorem num_le {c : Cur} {lim : Int} (h : Fit c) (hl : 0 ≤ lim) : (numC c lim).1 ≤ lim := by
  unfold numC
  split
  · exact hl
  · split
    · exact hl
    · dsimp only
      split
      · exact hl
      · rename_i h2; omega

theorem F_opparttake_eq (k : Nat) (p : Int) (c : Cur) (o : TOp) (h : Fine c) (ho : o.2.2.2.2.2.2.2.2.2.2.1.length ≤ 900) : F_opparttake (k + 40) p (c, ()) o = some ((), ((partGet p c o).1, ((partGet p c o).2, ()))) := by
  obtain ⟨kd, i, t, blk, par, key, seg, lf, rt, tx, cu, fl, u⟩ := o
  simp only at ho
  rw [F_opparttake_step]
  unfold partGet
  dsimp only
  by_cases e0 : p = 0
  · rw [if_pos e0, br_t (by simpa using e0), F_opreadername_eq _ h]; rfl
  rw [if_neg e0, br_f (by simpa using e0)]
  by_cases e1 : p = 1
  · rw [if_pos e1, br_t (by simpa using e1), F_opreadername_eq _ h]
    simp only [bd_s]
    rw [F_opreaderchar_eq _ (fine_name h)]
    simp only [bd_s]
    rw [F_opreaderchar_eq _ (fine_char (fine_name h))]
    rfl
  rw [if_neg e1, br_f (by simpa using e1)]
  by_cases e2 : p = 2
  · rw [if_pos e2, br_t (by simpa using e2), F_opreadername_eq _ h]
    simp only [bd_s]
    rw [F_numCursorText_F _ _ (fine_name h)]
    rfl
  rw [if_neg e2, br_f (by simpa using e2)]
  by_cases e3 : p = 3
  · rw [if_pos e3, br_t (by simpa using e3), F_numCursorText_F _ _ h]; rfl
  rw [if_neg e3, br_f (by simpa using e3)]
  by_cases e4 : p = 4
  · rw [if_pos e4, br_t (by simpa using e4), F_numCursorNum_F _ _ h]
    simp only [bd_s]
    have h0 := num_nonneg h.1 16
    have h1 := num_le h.1 (lim := 16) (by omega)
    obtain ⟨n, hn⟩ : ∃ n : Nat, (numC c 16).1 = (n : Int) := ⟨(numC c 16).1.toNat, by omega⟩
    rw [hn]
    have := take_cuts (k + 24) n (k + 39) (numC c 16).2 (kd, i, t, blk, par, key, seg, lf, rt, tx, cu, fl, u) (by omega) (by omega) (by simp <;> omega) (fine_num h _)
    rw [show k + 24 + 15 = k + 39 from rfl] at this
    rw [this]
    simp [addCuts]
  rw [if_neg e4, br_f (by simpa using e4)]
  by_cases e5 : p = 5
  · rw [if_pos e5, br_t (by simpa using e5), F_numCursorNum_F _ _ h]; rfl
  rw [if_neg e5, br_f (by simpa using e5)]

end Go.Proofs.YtkfikongenapfaaDoor.E

namespace Go.Proofs.YtkfikongenapfaaDoor.E
open Go
set_option linter.unusedVariables false
set_option maxRecDepth 100000
noncomputable def F_opSame (k : Nat) (a0 : TOp) (a1 : TOp) : Option (((Bool) × (Unit)) × (Unit)) := fnE E0 k 32 (a0, a1, ())

theorem F_opSame_step (k : Nat) (a0 : TOp) (a1 : TOp) : F_opSame (k + 1) a0 a1 =
  (br (cond (cond (cond (cond (cond (cond (cond (cond (cond (cond (a0.1 == a1.1) (denEq (.pair (.int .i64) (.pair (.int .i64) .unit)) a0.2.1 a1.2.1) false) (a0.2.2.1 == a1.2.2.1) false) (denEq (.pair (.int .i64) (.pair (.int .i64) .unit)) a0.2.2.2.1 a1.2.2.2.1) false) (denEq (.pair (.int .i64) (.pair (.int .i64) .unit)) a0.2.2.2.2.1 a1.2.2.2.2.1) false) (a0.2.2.2.2.2.1 == a1.2.2.2.2.2.1) false) (denEq (.pair (.int .i64) (.pair (.int .i64) .unit)) a0.2.2.2.2.2.2.1 a1.2.2.2.2.2.2.1) false) (denEq (.pair (.pair (.int .i64) (.pair (.int .i64) .unit)) (.pair (.int .i64) .unit)) a0.2.2.2.2.2.2.2.1 a1.2.2.2.2.2.2.2.1) false) (denEq (.pair (.pair (.int .i64) (.pair (.int .i64) .unit)) (.pair (.int .i64) .unit)) a0.2.2.2.2.2.2.2.2.1 a1.2.2.2.2.2.2.2.2.1) false) (a0.2.2.2.2.2.2.2.2.2.1 == a1.2.2.2.2.2.2.2.2.2.1) false) (a0.2.2.2.2.2.2.2.2.2.2.2.1 == a1.2.2.2.2.2.2.2.2.2.2.2.1) false)
      (bd (F_slicesEqualapiCut k a0.2.2.2.2.2.2.2.2.2.2.1 a1.2.2.2.2.2.2.2.2.2.2.1) (fun (r : ((Bool) × (Unit)) × (Unit)) => (some ((r.1.1, ()), ()))))
      (some ((false, ()), ()))) :=
 (show F_opSame (k + 1) a0 a1 =
  (both
   (both
    (both
     (br (cond (cond (cond (cond (cond (cond (cond (cond (cond (cond (a0.1 == a1.1) (denEq (.pair (.int .i64) (.pair (.int .i64) .unit)) a0.2.1 a1.2.1) false) (a0.2.2.1 == a1.2.2.1) false) (denEq (.pair (.int .i64) (.pair (.int .i64) .unit)) a0.2.2.2.1 a1.2.2.2.1) false) (denEq (.pair (.int .i64) (.pair (.int .i64) .unit)) a0.2.2.2.2.1 a1.2.2.2.2.1) false) (a0.2.2.2.2.2.1 == a1.2.2.2.2.2.1) false) (denEq (.pair (.int .i64) (.pair (.int .i64) .unit)) a0.2.2.2.2.2.2.1 a1.2.2.2.2.2.2.1) false) (denEq (.pair (.pair (.int .i64) (.pair (.int .i64) .unit)) (.pair (.int .i64) .unit)) a0.2.2.2.2.2.2.2.1 a1.2.2.2.2.2.2.2.1) false) (denEq (.pair (.pair (.int .i64) (.pair (.int .i64) .unit)) (.pair (.int .i64) .unit)) a0.2.2.2.2.2.2.2.2.1 a1.2.2.2.2.2.2.2.2.1) false) (a0.2.2.2.2.2.2.2.2.2.1 == a1.2.2.2.2.2.2.2.2.2.1) false) (a0.2.2.2.2.2.2.2.2.2.2.2.1 == a1.2.2.2.2.2.2.2.2.2.2.2.1) false)
      (bd (F_slicesEqualapiCut k a0.2.2.2.2.2.2.2.2.2.2.1 a1.2.2.2.2.2.2.2.2.2.2.1) (fun (r : ((Bool) × (Unit)) × (Unit)) => (some ((r.1.1, ()), ()))))
      (some ((false, ()), ())))
     (br (cond (cond (cond (cond (cond (cond (cond (cond (cond (cond (a0.1 == a1.1) (denEq (.pair (.int .i64) (.pair (.int .i64) .unit)) a0.2.1 a1.2.1) false) (a0.2.2.1 == a1.2.2.1) false) (denEq (.pair (.int .i64) (.pair (.int .i64) .unit)) a0.2.2.2.1 a1.2.2.2.1) false) (denEq (.pair (.int .i64) (.pair (.int .i64) .unit)) a0.2.2.2.2.1 a1.2.2.2.2.1) false) (a0.2.2.2.2.2.1 == a1.2.2.2.2.2.1) false) (denEq (.pair (.int .i64) (.pair (.int .i64) .unit)) a0.2.2.2.2.2.2.1 a1.2.2.2.2.2.2.1) false) (denEq (.pair (.pair (.int .i64) (.pair (.int .i64) .unit)) (.pair (.int .i64) .unit)) a0.2.2.2.2.2.2.2.1 a1.2.2.2.2.2.2.2.1) false) (denEq (.pair (.pair (.int .i64) (.pair (.int .i64) .unit)) (.pair (.int .i64) .unit)) a0.2.2.2.2.2.2.2.2.1 a1.2.2.2.2.2.2.2.2.1) false) (a0.2.2.2.2.2.2.2.2.2.1 == a1.2.2.2.2.2.2.2.2.2.1) false) (a0.2.2.2.2.2.2.2.2.2.2.2.1 == a1.2.2.2.2.2.2.2.2.2.2.2.1) false)
      (bd (F_slicesEqualapiCut k a0.2.2.2.2.2.2.2.2.2.2.1 a1.2.2.2.2.2.2.2.2.2.2.1) (fun (r : ((Bool) × (Unit)) × (Unit)) => (some ((r.1.1, ()), ()))))
      (some ((false, ()), ()))))
    (both
     (both
      (br (cond (cond (cond (cond (cond (cond (cond (cond (cond (cond (a0.1 == a1.1) (denEq (.pair (.int .i64) (.pair (.int .i64) .unit)) a0.2.1 a1.2.1) false) (a0.2.2.1 == a1.2.2.1) false) (denEq (.pair (.int .i64) (.pair (.int .i64) .unit)) a0.2.2.2.1 a1.2.2.2.1) false) (denEq (.pair (.int .i64) (.pair (.int .i64) .unit)) a0.2.2.2.2.1 a1.2.2.2.2.1) false) (a0.2.2.2.2.2.1 == a1.2.2.2.2.2.1) false) (denEq (.pair (.int .i64) (.pair (.int .i64) .unit)) a0.2.2.2.2.2.2.1 a1.2.2.2.2.2.2.1) false) (denEq (.pair (.pair (.int .i64) (.pair (.int .i64) .unit)) (.pair (.int .i64) .unit)) a0.2.2.2.2.2.2.2.1 a1.2.2.2.2.2.2.2.1) false) (denEq (.pair (.pair (.int .i64) (.pair (.int .i64) .unit)) (.pair (.int .i64) .unit)) a0.2.2.2.2.2.2.2.2.1 a1.2.2.2.2.2.2.2.2.1) false) (a0.2.2.2.2.2.2.2.2.2.1 == a1.2.2.2.2.2.2.2.2.2.1) false) (a0.2.2.2.2.2.2.2.2.2.2.2.1 == a1.2.2.2.2.2.2.2.2.2.2.2.1) false)
       (bd (F_slicesEqualapiCut k a0.2.2.2.2.2.2.2.2.2.2.1 a1.2.2.2.2.2.2.2.2.2.2.1) (fun (r : ((Bool) × (Unit)) × (Unit)) => (some ((r.1.1, ()), ()))))
       (some ((false, ()), ())))
      (both
       (br (cond (cond (cond (cond (cond (cond (cond (cond (cond (cond (a0.1 == a1.1) (denEq (.pair (.int .i64) (.pair (.int .i64) .unit)) a0.2.1 a1.2.1) false) (a0.2.2.1 == a1.2.2.1) false) (denEq (.pair (.int .i64) (.pair (.int .i64) .unit)) a0.2.2.2.1 a1.2.2.2.1) false) (denEq (.pair (.int .i64) (.pair (.int .i64) .unit)) a0.2.2.2.2.1 a1.2.2.2.2.1) false) (a0.2.2.2.2.2.1 == a1.2.2.2.2.2.1) false) (denEq (.pair (.int .i64) (.pair (.int .i64) .unit)) a0.2.2.2.2.2.2.1 a1.2.2.2.2.2.2.1) false) (denEq (.pair (.pair (.int .i64) (.pair (.int .i64) .unit)) (.pair (.int .i64) .unit)) a0.2.2.2.2.2.2.2.1 a1.2.2.2.2.2.2.2.1) false) (denEq (.pair (.pair (.int .i64) (.pair (.int .i64) .unit)) (.pair (.int .i64) .unit)) a0.2.2.2.2.2.2.2.2.1 a1.2.2.2.2.2.2.2.2.1) false) (a0.2.2.2.2.2.2.2.2.2.1 == a1.2.2.2.2.2.2.2.2.2.1) false) (a0.2.2.2.2.2.2.2.2.2.2.2.1 == a1.2.2.2.2.2.2.2.2.2.2.2.1) false)
        (bd (F_slicesEqualapiCut k a0.2.2.2.2.2.2.2.2.2.2.1 a1.2.2.2.2.2.2.2.2.2.2.1) (fun (r : ((Bool) × (Unit)) × (Unit)) => (some ((r.1.1, ()), ()))))
        (some ((false, ()), ())))
       (br (cond (cond (cond (cond (cond (cond (cond (cond (cond (cond (a0.1 == a1.1) (denEq (.pair (.int .i64) (.pair (.int .i64) .unit)) a0.2.1 a1.2.1) false) (a0.2.2.1 == a1.2.2.1) false) (denEq (.pair (.int .i64) (.pair (.int .i64) .unit)) a0.2.2.2.1 a1.2.2.2.1) false) (denEq (.pair (.int .i64) (.pair (.int .i64) .unit)) a0.2.2.2.2.1 a1.2.2.2.2.1) false) (a0.2.2.2.2.2.1 == a1.2.2.2.2.2.1) false) (denEq (.pair (.int .i64) (.pair (.int .i64) .unit)) a0.2.2.2.2.2.2.1 a1.2.2.2.2.2.2.1) false) (denEq (.pair (.pair (.int .i64) (.pair (.int .i64) .unit)) (.pair (.int .i64) .unit)) a0.2.2.2.2.2.2.2.1 a1.2.2.2.2.2.2.2.1) false) (denEq (.pair (.pair (.int .i64) (.pair (.int .i64) .unit)) (.pair (.int .i64) .unit)) a0.2.2.2.2.2.2.2.2.1 a1.2.2.2.2.2.2.2.2.1) false) (a0.2.2.2.2.2.2.2.2.2.1 == a1.2.2.2.2.2.2.2.2.2.1) false) (a0.2.2.2.2.2.2.2.2.2.2.2.1 == a1.2.2.2.2.2.2.2.2.2.2.2.1) false)
        (bd (F_slicesEqualapiCut k a0.2.2.2.2.2.2.2.2.2.2.1 a1.2.2.2.2.2.2.2.2.2.2.1) (fun (r : ((Bool) × (Unit)) × (Unit)) => (some ((r.1.1, ()), ()))))
        (some ((false, ()), ())))))
     (both
      (br (cond (cond (cond (cond (cond (cond (cond (cond (cond (cond (a0.1 == a1.1) (denEq (.pair (.int .i64) (.pair (.int .i64) .unit)) a0.2.1 a1.2.1) false) (a0.2.2.1 == a1.2.2.1) false) (denEq (.pair (.int .i64) (.pair (.int .i64) .unit)) a0.2.2.2.1 a1.2.2.2.1) false) (denEq (.pair (.int .i64) (.pair (.int .i64) .unit)) a0.2.2.2.2.1 a1.2.2.2.2.1) false) (a0.2.2.2.2.2.1 == a1.2.2.2.2.2.1) false) (denEq (.pair (.int .i64) (.pair (.int .i64) .unit)) a0.2.2.2.2.2.2.1 a1.2.2.2.2.2.2.1) false) (denEq (.pair (.pair (.int .i64) (.pair (.int .i64) .unit)) (.pair (.int .i64) .unit)) a0.2.2.2.2.2.2.2.1 a1.2.2.2.2.2.2.2.1) false) (denEq (.pair (.pair (.int .i64) (.pair (.int .i64) .unit)) (.pair (.int .i64) .unit)) a0.2.2.2.2.2.2.2.2.1 a1.2.2.2.2.2.2.2.2.1) false) (a0.2.2.2.2.2.2.2.2.2.1 == a1.2.2.2.2.2.2.2.2.2.1) false) (a0.2.2.2.2.2.2.2.2.2.2.2.1 == a1.2.2.2.2.2.2.2.2.2.2.2.1) false)
       (bd (F_slicesEqualapiCut k a0.2.2.2.2.2.2.2.2.2.2.1 a1.2.2.2.2.2.2.2.2.2.2.1) (fun (r : ((Bool) × (Unit)) × (Unit)) => (some ((r.1.1, ()), ()))))
       (some ((false, ()), ())))
      (both
       (br (cond (cond (cond (cond (cond (cond (cond (cond (cond (cond (a0.1 == a1.1) (denEq (.pair (.int .i64) (.pair (.int .i64) .unit)) a0.2.1 a1.2.1) false) (a0.2.2.1 == a1.2.2.1) false) (denEq (.pair (.int .i64) (.pair (.int .i64) .unit)) a0.2.2.2.1 a1.2.2.2.1) false) (denEq (.pair (.int .i64) (.pair (.int .i64) .unit)) a0.2.2.2.2.1 a1.2.2.2.2.1) false) (a0.2.2.2.2.2.1 == a1.2.2.2.2.2.1) false) (denEq (.pair (.int .i64) (.pair (.int .i64) .unit)) a0.2.2.2.2.2.2.1 a1.2.2.2.2.2.2.1) false) (denEq (.pair (.pair (.int .i64) (.pair (.int .i64) .unit)) (.pair (.int .i64) .unit)) a0.2.2.2.2.2.2.2.1 a1.2.2.2.2.2.2.2.1) false) (denEq (.pair (.pair (.int .i64) (.pair (.int .i64) .unit)) (.pair (.int .i64) .unit)) a0.2.2.2.2.2.2.2.2.1 a1.2.2.2.2.2.2.2.2.1) false) (a0.2.2.2.2.2.2.2.2.2.1 == a1.2.2.2.2.2.2.2.2.2.1) false) (a0.2.2.2.2.2.2.2.2.2.2.2.1 == a1.2.2.2.2.2.2.2.2.2.2.2.1) false)
        (bd (F_slicesEqualapiCut k a0.2.2.2.2.2.2.2.2.2.2.1 a1.2.2.2.2.2.2.2.2.2.2.1) (fun (r : ((Bool) × (Unit)) × (Unit)) => (some ((r.1.1, ()), ()))))
        (some ((false, ()), ())))
       (br (cond (cond (cond (cond (cond (cond (cond (cond (cond (cond (a0.1 == a1.1) (denEq (.pair (.int .i64) (.pair (.int .i64) .unit)) a0.2.1 a1.2.1) false) (a0.2.2.1 == a1.2.2.1) false) (denEq (.pair (.int .i64) (.pair (.int .i64) .unit)) a0.2.2.2.1 a1.2.2.2.1) false) (denEq (.pair (.int .i64) (.pair (.int .i64) .unit)) a0.2.2.2.2.1 a1.2.2.2.2.1) false) (a0.2.2.2.2.2.1 == a1.2.2.2.2.2.1) false) (denEq (.pair (.int .i64) (.pair (.int .i64) .unit)) a0.2.2.2.2.2.2.1 a1.2.2.2.2.2.2.1) false) (denEq (.pair (.pair (.int .i64) (.pair (.int .i64) .unit)) (.pair (.int .i64) .unit)) a0.2.2.2.2.2.2.2.1 a1.2.2.2.2.2.2.2.1) false) (denEq (.pair (.pair (.int .i64) (.pair (.int .i64) .unit)) (.pair (.int .i64) .unit)) a0.2.2.2.2.2.2.2.2.1 a1.2.2.2.2.2.2.2.2.1) false) (a0.2.2.2.2.2.2.2.2.2.1 == a1.2.2.2.2.2.2.2.2.2.1) false) (a0.2.2.2.2.2.2.2.2.2.2.2.1 == a1.2.2.2.2.2.2.2.2.2.2.2.1) false)
        (bd (F_slicesEqualapiCut k a0.2.2.2.2.2.2.2.2.2.2.1 a1.2.2.2.2.2.2.2.2.2.2.1) (fun (r : ((Bool) × (Unit)) × (Unit)) => (some ((r.1.1, ()), ()))))
        (some ((false, ()), ())))))))
   (both
    (both
     (both
      (br (cond (cond (cond (cond (cond (cond (cond (cond (cond (cond (a0.1 == a1.1) (denEq (.pair (.int .i64) (.pair (.int .i64) .unit)) a0.2.1 a1.2.1) false) (a0.2.2.1 == a1.2.2.1) false) (denEq (.pair (.int .i64) (.pair (.int .i64) .unit)) a0.2.2.2.1 a1.2.2.2.1) false) (denEq (.pair (.int .i64) (.pair (.int .i64) .unit)) a0.2.2.2.2.1 a1.2.2.2.2.1) false) (a0.2.2.2.2.2.1 == a1.2.2.2.2.2.1) false) (denEq (.pair (.int .i64) (.pair (.int .i64) .unit)) a0.2.2.2.2.2.2.1 a1.2.2.2.2.2.2.1) false) (denEq (.pair (.pair (.int .i64) (.pair (.int .i64) .unit)) (.pair (.int .i64) .unit)) a0.2.2.2.2.2.2.2.1 a1.2.2.2.2.2.2.2.1) false) (denEq (.pair (.pair (.int .i64) (.pair (.int .i64) .unit)) (.pair (.int .i64) .unit)) a0.2.2.2.2.2.2.2.2.1 a1.2.2.2.2.2.2.2.2.1) false) (a0.2.2.2.2.2.2.2.2.2.1 == a1.2.2.2.2.2.2.2.2.2.1) false) (a0.2.2.2.2.2.2.2.2.2.2.2.1 == a1.2.2.2.2.2.2.2.2.2.2.2.1) false)
       (bd (F_slicesEqualapiCut k a0.2.2.2.2.2.2.2.2.2.2.1 a1.2.2.2.2.2.2.2.2.2.2.1) (fun (r : ((Bool) × (Unit)) × (Unit)) => (some ((r.1.1, ()), ()))))
       (some ((false, ()), ())))
      (br (cond (cond (cond (cond (cond (cond (cond (cond (cond (cond (a0.1 == a1.1) (denEq (.pair (.int .i64) (.pair (.int .i64) .unit)) a0.2.1 a1.2.1) false) (a0.2.2.1 == a1.2.2.1) false) (denEq (.pair (.int .i64) (.pair (.int .i64) .unit)) a0.2.2.2.1 a1.2.2.2.1) false) (denEq (.pair (.int .i64) (.pair (.int .i64) .unit)) a0.2.2.2.2.1 a1.2.2.2.2.1) false) (a0.2.2.2.2.2.1 == a1.2.2.2.2.2.1) false) (denEq (.pair (.int .i64) (.pair (.int .i64) .unit)) a0.2.2.2.2.2.2.1 a1.2.2.2.2.2.2.1) false) (denEq (.pair (.pair (.int .i64) (.pair (.int .i64) .unit)) (.pair (.int .i64) .unit)) a0.2.2.2.2.2.2.2.1 a1.2.2.2.2.2.2.2.1) false) (denEq (.pair (.pair (.int .i64) (.pair (.int .i64) .unit)) (.pair (.int .i64) .unit)) a0.2.2.2.2.2.2.2.2.1 a1.2.2.2.2.2.2.2.2.1) false) (a0.2.2.2.2.2.2.2.2.2.1 == a1.2.2.2.2.2.2.2.2.2.1) false) (a0.2.2.2.2.2.2.2.2.2.2.2.1 == a1.2.2.2.2.2.2.2.2.2.2.2.1) false)
       (bd (F_slicesEqualapiCut k a0.2.2.2.2.2.2.2.2.2.2.1 a1.2.2.2.2.2.2.2.2.2.2.1) (fun (r : ((Bool) × (Unit)) × (Unit)) => (some ((r.1.1, ()), ()))))
       (some ((false, ()), ()))))
     (both
      (both
       (br (cond (cond (cond (cond (cond (cond (cond (cond (cond (cond (a0.1 == a1.1) (denEq (.pair (.int .i64) (.pair (.int .i64) .unit)) a0.2.1 a1.2.1) false) (a0.2.2.1 == a1.2.2.1) false) (denEq (.pair (.int .i64) (.pair (.int .i64) .unit)) a0.2.2.2.1 a1.2.2.2.1) false) (denEq (.pair (.int .i64) (.pair (.int .i64) .unit)) a0.2.2.2.2.1 a1.2.2.2.2.1) false) (a0.2.2.2.2.2.1 == a1.2.2.2.2.2.1) false) (denEq (.pair (.int .i64) (.pair (.int .i64) .unit)) a0.2.2.2.2.2.2.1 a1.2.2.2.2.2.2.1) false) (denEq (.pair (.pair (.int .i64) (.pair (.int .i64) .unit)) (.pair (.int .i64) .unit)) a0.2.2.2.2.2.2.2.1 a1.2.2.2.2.2.2.2.1) false) (denEq (.pair (.pair (.int .i64) (.pair (.int .i64) .unit)) (.pair (.int .i64) .unit)) a0.2.2.2.2.2.2.2.2.1 a1.2.2.2.2.2.2.2.2.1) false) (a0.2.2.2.2.2.2.2.2.2.1 == a1.2.2.2.2.2.2.2.2.2.1) false) (a0.2.2.2.2.2.2.2.2.2.2.2.1 == a1.2.2.2.2.2.2.2.2.2.2.2.1) false)
        (bd (F_slicesEqualapiCut k a0.2.2.2.2.2.2.2.2.2.2.1 a1.2.2.2.2.2.2.2.2.2.2.1) (fun (r : ((Bool) × (Unit)) × (Unit)) => (some ((r.1.1, ()), ()))))
        (some ((false, ()), ())))
       (br (cond (cond (cond (cond (cond (cond (cond (cond (cond (cond (a0.1 == a1.1) (denEq (.pair (.int .i64) (.pair (.int .i64) .unit)) a0.2.1 a1.2.1) false) (a0.2.2.1 == a1.2.2.1) false) (denEq (.pair (.int .i64) (.pair (.int .i64) .unit)) a0.2.2.2.1 a1.2.2.2.1) false) (denEq (.pair (.int .i64) (.pair (.int .i64) .unit)) a0.2.2.2.2.1 a1.2.2.2.2.1) false) (a0.2.2.2.2.2.1 == a1.2.2.2.2.2.1) false) (denEq (.pair (.int .i64) (.pair (.int .i64) .unit)) a0.2.2.2.2.2.2.1 a1.2.2.2.2.2.2.1) false) (denEq (.pair (.pair (.int .i64) (.pair (.int .i64) .unit)) (.pair (.int .i64) .unit)) a0.2.2.2.2.2.2.2.1 a1.2.2.2.2.2.2.2.1) false) (denEq (.pair (.pair (.int .i64) (.pair (.int .i64) .unit)) (.pair (.int .i64) .unit)) a0.2.2.2.2.2.2.2.2.1 a1.2.2.2.2.2.2.2.2.1) false) (a0.2.2.2.2.2.2.2.2.2.1 == a1.2.2.2.2.2.2.2.2.2.1) false) (a0.2.2.2.2.2.2.2.2.2.2.2.1 == a1.2.2.2.2.2.2.2.2.2.2.2.1) false)
        (bd (F_slicesEqualapiCut k a0.2.2.2.2.2.2.2.2.2.2.1 a1.2.2.2.2.2.2.2.2.2.2.1) (fun (r : ((Bool) × (Unit)) × (Unit)) => (some ((r.1.1, ()), ()))))
        (some ((false, ()), ()))))
      (both
       (br (cond (cond (cond (cond (cond (cond (cond (cond (cond (cond (a0.1 == a1.1) (denEq (.pair (.int .i64) (.pair (.int .i64) .unit)) a0.2.1 a1.2.1) false) (a0.2.2.1 == a1.2.2.1) false) (denEq (.pair (.int .i64) (.pair (.int .i64) .unit)) a0.2.2.2.1 a1.2.2.2.1) false) (denEq (.pair (.int .i64) (.pair (.int .i64) .unit)) a0.2.2.2.2.1 a1.2.2.2.2.1) false) (a0.2.2.2.2.2.1 == a1.2.2.2.2.2.1) false) (denEq (.pair (.int .i64) (.pair (.int .i64) .unit)) a0.2.2.2.2.2.2.1 a1.2.2.2.2.2.2.1) false) (denEq (.pair (.pair (.int .i64) (.pair (.int .i64) .unit)) (.pair (.int .i64) .unit)) a0.2.2.2.2.2.2.2.1 a1.2.2.2.2.2.2.2.1) false) (denEq (.pair (.pair (.int .i64) (.pair (.int .i64) .unit)) (.pair (.int .i64) .unit)) a0.2.2.2.2.2.2.2.2.1 a1.2.2.2.2.2.2.2.2.1) false) (a0.2.2.2.2.2.2.2.2.2.1 == a1.2.2.2.2.2.2.2.2.2.1) false) (a0.2.2.2.2.2.2.2.2.2.2.2.1 == a1.2.2.2.2.2.2.2.2.2.2.2.1) false)
        (bd (F_slicesEqualapiCut k a0.2.2.2.2.2.2.2.2.2.2.1 a1.2.2.2.2.2.2.2.2.2.2.1) (fun (r : ((Bool) × (Unit)) × (Unit)) => (some ((r.1.1, ()), ()))))
        (some ((false, ()), ())))
       (br (cond (cond (cond (cond (cond (cond (cond (cond (cond (cond (a0.1 == a1.1) (denEq (.pair (.int .i64) (.pair (.int .i64) .unit)) a0.2.1 a1.2.1) false) (a0.2.2.1 == a1.2.2.1) false) (denEq (.pair (.int .i64) (.pair (.int .i64) .unit)) a0.2.2.2.1 a1.2.2.2.1) false) (denEq (.pair (.int .i64) (.pair (.int .i64) .unit)) a0.2.2.2.2.1 a1.2.2.2.2.1) false) (a0.2.2.2.2.2.1 == a1.2.2.2.2.2.1) false) (denEq (.pair (.int .i64) (.pair (.int .i64) .unit)) a0.2.2.2.2.2.2.1 a1.2.2.2.2.2.2.1) false) (denEq (.pair (.pair (.int .i64) (.pair (.int .i64) .unit)) (.pair (.int .i64) .unit)) a0.2.2.2.2.2.2.2.1 a1.2.2.2.2.2.2.2.1) false) (denEq (.pair (.pair (.int .i64) (.pair (.int .i64) .unit)) (.pair (.int .i64) .unit)) a0.2.2.2.2.2.2.2.2.1 a1.2.2.2.2.2.2.2.2.1) false) (a0.2.2.2.2.2.2.2.2.2.1 == a1.2.2.2.2.2.2.2.2.2.1) false) (a0.2.2.2.2.2.2.2.2.2.2.2.1 == a1.2.2.2.2.2.2.2.2.2.2.2.1) false)
        (bd (F_slicesEqualapiCut k a0.2.2.2.2.2.2.2.2.2.2.1 a1.2.2.2.2.2.2.2.2.2.2.1) (fun (r : ((Bool) × (Unit)) × (Unit)) => (some ((r.1.1, ()), ()))))
        (some ((false, ()), ()))))))
    (both
     (both
      (both
       (br (cond (cond (cond (cond (cond (cond (cond (cond (cond (cond (a0.1 == a1.1) (denEq (.pair (.int .i64) (.pair (.int .i64) .unit)) a0.2.1 a1.2.1) false) (a0.2.2.1 == a1.2.2.1) false) (denEq (.pair (.int .i64) (.pair (.int .i64) .unit)) a0.2.2.2.1 a1.2.2.2.1) false) (denEq (.pair (.int .i64) (.pair (.int .i64) .unit)) a0.2.2.2.2.1 a1.2.2.2.2.1) false) (a0.2.2.2.2.2.1 == a1.2.2.2.2.2.1) false) (denEq (.pair (.int .i64) (.pair (.int .i64) .unit)) a0.2.2.2.2.2.2.1 a1.2.2.2.2.2.2.1) false) (denEq (.pair (.pair (.int .i64) (.pair (.int .i64) .unit)) (.pair (.int .i64) .unit)) a0.2.2.2.2.2.2.2.1 a1.2.2.2.2.2.2.2.1) false) (denEq (.pair (.pair (.int .i64) (.pair (.int .i64) .unit)) (.pair (.int .i64) .unit)) a0.2.2.2.2.2.2.2.2.1 a1.2.2.2.2.2.2.2.2.1) false) (a0.2.2.2.2.2.2.2.2.2.1 == a1.2.2.2.2.2.2.2.2.2.1) false) (a0.2.2.2.2.2.2.2.2.2.2.2.1 == a1.2.2.2.2.2.2.2.2.2.2.2.1) false)
        (bd (F_slicesEqualapiCut k a0.2.2.2.2.2.2.2.2.2.2.1 a1.2.2.2.2.2.2.2.2.2.2.1) (fun (r : ((Bool) × (Unit)) × (Unit)) => (some ((r.1.1, ()), ()))))
        (some ((false, ()), ())))
       (both
        (br (cond (cond (cond (cond (cond (cond (cond (cond (cond (cond (a0.1 == a1.1) (denEq (.pair (.int .i64) (.pair (.int .i64) .unit)) a0.2.1 a1.2.1) false) (a0.2.2.1 == a1.2.2.1) false) (denEq (.pair (.int .i64) (.pair (.int .i64) .unit)) a0.2.2.2.1 a1.2.2.2.1) false) (denEq (.pair (.int .i64) (.pair (.int .i64) .unit)) a0.2.2.2.2.1 a1.2.2.2.2.1) false) (a0.2.2.2.2.2.1 == a1.2.2.2.2.2.1) false) (denEq (.pair (.int .i64) (.pair (.int .i64) .unit)) a0.2.2.2.2.2.2.1 a1.2.2.2.2.2.2.1) false) (denEq (.pair (.pair (.int .i64) (.pair (.int .i64) .unit)) (.pair (.int .i64) .unit)) a0.2.2.2.2.2.2.2.1 a1.2.2.2.2.2.2.2.1) false) (denEq (.pair (.pair (.int .i64) (.pair (.int .i64) .unit)) (.pair (.int .i64) .unit)) a0.2.2.2.2.2.2.2.2.1 a1.2.2.2.2.2.2.2.2.1) false) (a0.2.2.2.2.2.2.2.2.2.1 == a1.2.2.2.2.2.2.2.2.2.1) false) (a0.2.2.2.2.2.2.2.2.2.2.2.1 == a1.2.2.2.2.2.2.2.2.2.2.2.1) false)
         (bd (F_slicesEqualapiCut k a0.2.2.2.2.2.2.2.2.2.2.1 a1.2.2.2.2.2.2.2.2.2.2.1) (fun (r : ((Bool) × (Unit)) × (Unit)) => (some ((r.1.1, ()), ()))))
         (some ((false, ()), ())))
        (br (cond (cond (cond (cond (cond (cond (cond (cond (cond (cond (a0.1 == a1.1) (denEq (.pair (.int .i64) (.pair (.int .i64) .unit)) a0.2.1 a1.2.1) false) (a0.2.2.1 == a1.2.2.1) false) (denEq (.pair (.int .i64) (.pair (.int .i64) .unit)) a0.2.2.2.1 a1.2.2.2.1) false) (denEq (.pair (.int .i64) (.pair (.int .i64) .unit)) a0.2.2.2.2.1 a1.2.2.2.2.1) false) (a0.2.2.2.2.2.1 == a1.2.2.2.2.2.1) false) (denEq (.pair (.int .i64) (.pair (.int .i64) .unit)) a0.2.2.2.2.2.2.1 a1.2.2.2.2.2.2.1) false) (denEq (.pair (.pair (.int .i64) (.pair (.int .i64) .unit)) (.pair (.int .i64) .unit)) a0.2.2.2.2.2.2.2.1 a1.2.2.2.2.2.2.2.1) false) (denEq (.pair (.pair (.int .i64) (.pair (.int .i64) .unit)) (.pair (.int .i64) .unit)) a0.2.2.2.2.2.2.2.2.1 a1.2.2.2.2.2.2.2.2.1) false) (a0.2.2.2.2.2.2.2.2.2.1 == a1.2.2.2.2.2.2.2.2.2.1) false) (a0.2.2.2.2.2.2.2.2.2.2.2.1 == a1.2.2.2.2.2.2.2.2.2.2.2.1) false)
         (bd (F_slicesEqualapiCut k a0.2.2.2.2.2.2.2.2.2.2.1 a1.2.2.2.2.2.2.2.2.2.2.1) (fun (r : ((Bool) × (Unit)) × (Unit)) => (some ((r.1.1, ()), ()))))
         (some ((false, ()), ())))))
      (both
       (both
        (br (cond (cond (cond (cond (cond (cond (cond (cond (cond (cond (a0.1 == a1.1) (denEq (.pair (.int .i64) (.pair (.int .i64) .unit)) a0.2.1 a1.2.1) false) (a0.2.2.1 == a1.2.2.1) false) (denEq (.pair (.int .i64) (.pair (.int .i64) .unit)) a0.2.2.2.1 a1.2.2.2.1) false) (denEq (.pair (.int .i64) (.pair (.int .i64) .unit)) a0.2.2.2.2.1 a1.2.2.2.2.1) false) (a0.2.2.2.2.2.1 == a1.2.2.2.2.2.1) false) (denEq (.pair (.int .i64) (.pair (.int .i64) .unit)) a0.2.2.2.2.2.2.1 a1.2.2.2.2.2.2.1) false) (denEq (.pair (.pair (.int .i64) (.pair (.int .i64) .unit)) (.pair (.int .i64) .unit)) a0.2.2.2.2.2.2.2.1 a1.2.2.2.2.2.2.2.1) false) (denEq (.pair (.pair (.int .i64) (.pair (.int .i64) .unit)) (.pair (.int .i64) .unit)) a0.2.2.2.2.2.2.2.2.1 a1.2.2.2.2.2.2.2.2.1) false) (a0.2.2.2.2.2.2.2.2.2.1 == a1.2.2.2.2.2.2.2.2.2.1) false) (a0.2.2.2.2.2.2.2.2.2.2.2.1 == a1.2.2.2.2.2.2.2.2.2.2.2.1) false)
         (bd (F_slicesEqualapiCut k a0.2.2.2.2.2.2.2.2.2.2.1 a1.2.2.2.2.2.2.2.2.2.2.1) (fun (r : ((Bool) × (Unit)) × (Unit)) => (some ((r.1.1, ()), ()))))
         (some ((false, ()), ())))
        (br (cond (cond (cond (cond (cond (cond (cond (cond (cond (cond (a0.1 == a1.1) (denEq (.pair (.int .i64) (.pair (.int .i64) .unit)) a0.2.1 a1.2.1) false) (a0.2.2.1 == a1.2.2.1) false) (denEq (.pair (.int .i64) (.pair (.int .i64) .unit)) a0.2.2.2.1 a1.2.2.2.1) false) (denEq (.pair (.int .i64) (.pair (.int .i64) .unit)) a0.2.2.2.2.1 a1.2.2.2.2.1) false) (a0.2.2.2.2.2.1 == a1.2.2.2.2.2.1) false) (denEq (.pair (.int .i64) (.pair (.int .i64) .unit)) a0.2.2.2.2.2.2.1 a1.2.2.2.2.2.2.1) false) (denEq (.pair (.pair (.int .i64) (.pair (.int .i64) .unit)) (.pair (.int .i64) .unit)) a0.2.2.2.2.2.2.2.1 a1.2.2.2.2.2.2.2.1) false) (denEq (.pair (.pair (.int .i64) (.pair (.int .i64) .unit)) (.pair (.int .i64) .unit)) a0.2.2.2.2.2.2.2.2.1 a1.2.2.2.2.2.2.2.2.1) false) (a0.2.2.2.2.2.2.2.2.2.1 == a1.2.2.2.2.2.2.2.2.2.1) false) (a0.2.2.2.2.2.2.2.2.2.2.2.1 == a1.2.2.2.2.2.2.2.2.2.2.2.1) false)
         (bd (F_slicesEqualapiCut k a0.2.2.2.2.2.2.2.2.2.2.1 a1.2.2.2.2.2.2.2.2.2.2.1) (fun (r : ((Bool) × (Unit)) × (Unit)) => (some ((r.1.1, ()), ()))))
         (some ((false, ()), ()))))
       (both
        (both
         (br (cond (cond (cond (cond (cond (cond (cond (cond (cond (cond (a0.1 == a1.1) (denEq (.pair (.int .i64) (.pair (.int .i64) .unit)) a0.2.1 a1.2.1) false) (a0.2.2.1 == a1.2.2.1) false) (denEq (.pair (.int .i64) (.pair (.int .i64) .unit)) a0.2.2.2.1 a1.2.2.2.1) false) (denEq (.pair (.int .i64) (.pair (.int .i64) .unit)) a0.2.2.2.2.1 a1.2.2.2.2.1) false) (a0.2.2.2.2.2.1 == a1.2.2.2.2.2.1) false) (denEq (.pair (.int .i64) (.pair (.int .i64) .unit)) a0.2.2.2.2.2.2.1 a1.2.2.2.2.2.2.1) false) (denEq (.pair (.pair (.int .i64) (.pair (.int .i64) .unit)) (.pair (.int .i64) .unit)) a0.2.2.2.2.2.2.2.1 a1.2.2.2.2.2.2.2.1) false) (denEq (.pair (.pair (.int .i64) (.pair (.int .i64) .unit)) (.pair (.int .i64) .unit)) a0.2.2.2.2.2.2.2.2.1 a1.2.2.2.2.2.2.2.2.1) false) (a0.2.2.2.2.2.2.2.2.2.1 == a1.2.2.2.2.2.2.2.2.2.1) false) (a0.2.2.2.2.2.2.2.2.2.2.2.1 == a1.2.2.2.2.2.2.2.2.2.2.2.1) false)
          (bd (F_slicesEqualapiCut k a0.2.2.2.2.2.2.2.2.2.2.1 a1.2.2.2.2.2.2.2.2.2.2.1) (fun (r : ((Bool) × (Unit)) × (Unit)) => (some ((r.1.1, ()), ()))))
          (some ((false, ()), ())))
         (br (cond (cond (cond (cond (cond (cond (cond (cond (cond (cond (a0.1 == a1.1) (denEq (.pair (.int .i64) (.pair (.int .i64) .unit)) a0.2.1 a1.2.1) false) (a0.2.2.1 == a1.2.2.1) false) (denEq (.pair (.int .i64) (.pair (.int .i64) .unit)) a0.2.2.2.1 a1.2.2.2.1) false) (denEq (.pair (.int .i64) (.pair (.int .i64) .unit)) a0.2.2.2.2.1 a1.2.2.2.2.1) false) (a0.2.2.2.2.2.1 == a1.2.2.2.2.2.1) false) (denEq (.pair (.int .i64) (.pair (.int .i64) .unit)) a0.2.2.2.2.2.2.1 a1.2.2.2.2.2.2.1) false) (denEq (.pair (.pair (.int .i64) (.pair (.int .i64) .unit)) (.pair (.int .i64) .unit)) a0.2.2.2.2.2.2.2.1 a1.2.2.2.2.2.2.2.1) false) (denEq (.pair (.pair (.int .i64) (.pair (.int .i64) .unit)) (.pair (.int .i64) .unit)) a0.2.2.2.2.2.2.2.2.1 a1.2.2.2.2.2.2.2.2.1) false) (a0.2.2.2.2.2.2.2.2.2.1 == a1.2.2.2.2.2.2.2.2.2.1) false) (a0.2.2.2.2.2.2.2.2.2.2.2.1 == a1.2.2.2.2.2.2.2.2.2.2.2.1) false)
          (bd (F_slicesEqualapiCut k a0.2.2.2.2.2.2.2.2.2.2.1 a1.2.2.2.2.2.2.2.2.2.2.1) (fun (r : ((Bool) × (Unit)) × (Unit)) => (some ((r.1.1, ()), ()))))
          (some ((false, ()), ()))))
        (br (cond (cond (cond (cond (cond (cond (cond (cond (cond (cond (a0.1 == a1.1) (denEq (.pair (.int .i64) (.pair (.int .i64) .unit)) a0.2.1 a1.2.1) false) (a0.2.2.1 == a1.2.2.1) false) (denEq (.pair (.int .i64) (.pair (.int .i64) .unit)) a0.2.2.2.1 a1.2.2.2.1) false) (denEq (.pair (.int .i64) (.pair (.int .i64) .unit)) a0.2.2.2.2.1 a1.2.2.2.2.1) false) (a0.2.2.2.2.2.1 == a1.2.2.2.2.2.1) false) (denEq (.pair (.int .i64) (.pair (.int .i64) .unit)) a0.2.2.2.2.2.2.1 a1.2.2.2.2.2.2.1) false) (denEq (.pair (.pair (.int .i64) (.pair (.int .i64) .unit)) (.pair (.int .i64) .unit)) a0.2.2.2.2.2.2.2.1 a1.2.2.2.2.2.2.2.1) false) (denEq (.pair (.pair (.int .i64) (.pair (.int .i64) .unit)) (.pair (.int .i64) .unit)) a0.2.2.2.2.2.2.2.2.1 a1.2.2.2.2.2.2.2.2.1) false) (a0.2.2.2.2.2.2.2.2.2.1 == a1.2.2.2.2.2.2.2.2.2.1) false) (a0.2.2.2.2.2.2.2.2.2.2.2.1 == a1.2.2.2.2.2.2.2.2.2.2.2.1) false)
         (bd (F_slicesEqualapiCut k a0.2.2.2.2.2.2.2.2.2.2.1 a1.2.2.2.2.2.2.2.2.2.2.1) (fun (r : ((Bool) × (Unit)) × (Unit)) => (some ((r.1.1, ()), ()))))
         (some ((false, ()), ()))))))
     (both
      (both
       (br (cond (cond (cond (cond (cond (cond (cond (cond (cond (cond (a0.1 == a1.1) (denEq (.pair (.int .i64) (.pair (.int .i64) .unit)) a0.2.1 a1.2.1) false) (a0.2.2.1 == a1.2.2.1) false) (denEq (.pair (.int .i64) (.pair (.int .i64) .unit)) a0.2.2.2.1 a1.2.2.2.1) false) (denEq (.pair (.int .i64) (.pair (.int .i64) .unit)) a0.2.2.2.2.1 a1.2.2.2.2.1) false) (a0.2.2.2.2.2.1 == a1.2.2.2.2.2.1) false) (denEq (.pair (.int .i64) (.pair (.int .i64) .unit)) a0.2.2.2.2.2.2.1 a1.2.2.2.2.2.2.1) false) (denEq (.pair (.pair (.int .i64) (.pair (.int .i64) .unit)) (.pair (.int .i64) .unit)) a0.2.2.2.2.2.2.2.1 a1.2.2.2.2.2.2.2.1) false) (denEq (.pair (.pair (.int .i64) (.pair (.int .i64) .unit)) (.pair (.int .i64) .unit)) a0.2.2.2.2.2.2.2.2.1 a1.2.2.2.2.2.2.2.2.1) false) (a0.2.2.2.2.2.2.2.2.2.1 == a1.2.2.2.2.2.2.2.2.2.1) false) (a0.2.2.2.2.2.2.2.2.2.2.2.1 == a1.2.2.2.2.2.2.2.2.2.2.2.1) false)
        (bd (F_slicesEqualapiCut k a0.2.2.2.2.2.2.2.2.2.2.1 a1.2.2.2.2.2.2.2.2.2.2.1) (fun (r : ((Bool) × (Unit)) × (Unit)) => (some ((r.1.1, ()), ()))))
        (some ((false, ()), ())))
       (both
        (br (cond (cond (cond (cond (cond (cond (cond (cond (cond (cond (a0.1 == a1.1) (denEq (.pair (.int .i64) (.pair (.int .i64) .unit)) a0.2.1 a1.2.1) false) (a0.2.2.1 == a1.2.2.1) false) (denEq (.pair (.int .i64) (.pair (.int .i64) .unit)) a0.2.2.2.1 a1.2.2.2.1) false) (denEq (.pair (.int .i64) (.pair (.int .i64) .unit)) a0.2.2.2.2.1 a1.2.2.2.2.1) false) (a0.2.2.2.2.2.1 == a1.2.2.2.2.2.1) false) (denEq (.pair (.int .i64) (.pair (.int .i64) .unit)) a0.2.2.2.2.2.2.1 a1.2.2.2.2.2.2.1) false) (denEq (.pair (.pair (.int .i64) (.pair (.int .i64) .unit)) (.pair (.int .i64) .unit)) a0.2.2.2.2.2.2.2.1 a1.2.2.2.2.2.2.2.1) false) (denEq (.pair (.pair (.int .i64) (.pair (.int .i64) .unit)) (.pair (.int .i64) .unit)) a0.2.2.2.2.2.2.2.2.1 a1.2.2.2.2.2.2.2.2.1) false) (a0.2.2.2.2.2.2.2.2.2.1 == a1.2.2.2.2.2.2.2.2.2.1) false) (a0.2.2.2.2.2.2.2.2.2.2.2.1 == a1.2.2.2.2.2.2.2.2.2.2.2.1) false)
         (bd (F_slicesEqualapiCut k a0.2.2.2.2.2.2.2.2.2.2.1 a1.2.2.2.2.2.2.2.2.2.2.1) (fun (r : ((Bool) × (Unit)) × (Unit)) => (some ((r.1.1, ()), ()))))
         (some ((false, ()), ())))
        (br (cond (cond (cond (cond (cond (cond (cond (cond (cond (cond (a0.1 == a1.1) (denEq (.pair (.int .i64) (.pair (.int .i64) .unit)) a0.2.1 a1.2.1) false) (a0.2.2.1 == a1.2.2.1) false) (denEq (.pair (.int .i64) (.pair (.int .i64) .unit)) a0.2.2.2.1 a1.2.2.2.1) false) (denEq (.pair (.int .i64) (.pair (.int .i64) .unit)) a0.2.2.2.2.1 a1.2.2.2.2.1) false) (a0.2.2.2.2.2.1 == a1.2.2.2.2.2.1) false) (denEq (.pair (.int .i64) (.pair (.int .i64) .unit)) a0.2.2.2.2.2.2.1 a1.2.2.2.2.2.2.1) false) (denEq (.pair (.pair (.int .i64) (.pair (.int .i64) .unit)) (.pair (.int .i64) .unit)) a0.2.2.2.2.2.2.2.1 a1.2.2.2.2.2.2.2.1) false) (denEq (.pair (.pair (.int .i64) (.pair (.int .i64) .unit)) (.pair (.int .i64) .unit)) a0.2.2.2.2.2.2.2.2.1 a1.2.2.2.2.2.2.2.2.1) false) (a0.2.2.2.2.2.2.2.2.2.1 == a1.2.2.2.2.2.2.2.2.2.1) false) (a0.2.2.2.2.2.2.2.2.2.2.2.1 == a1.2.2.2.2.2.2.2.2.2.2.2.1) false)
         (bd (F_slicesEqualapiCut k a0.2.2.2.2.2.2.2.2.2.2.1 a1.2.2.2.2.2.2.2.2.2.2.1) (fun (r : ((Bool) × (Unit)) × (Unit)) => (some ((r.1.1, ()), ()))))
         (some ((false, ()), ())))))
      (both
       (both
        (br (cond (cond (cond (cond (cond (cond (cond (cond (cond (cond (a0.1 == a1.1) (denEq (.pair (.int .i64) (.pair (.int .i64) .unit)) a0.2.1 a1.2.1) false) (a0.2.2.1 == a1.2.2.1) false) (denEq (.pair (.int .i64) (.pair (.int .i64) .unit)) a0.2.2.2.1 a1.2.2.2.1) false) (denEq (.pair (.int .i64) (.pair (.int .i64) .unit)) a0.2.2.2.2.1 a1.2.2.2.2.1) false) (a0.2.2.2.2.2.1 == a1.2.2.2.2.2.1) false) (denEq (.pair (.int .i64) (.pair (.int .i64) .unit)) a0.2.2.2.2.2.2.1 a1.2.2.2.2.2.2.1) false) (denEq (.pair (.pair (.int .i64) (.pair (.int .i64) .unit)) (.pair (.int .i64) .unit)) a0.2.2.2.2.2.2.2.1 a1.2.2.2.2.2.2.2.1) false) (denEq (.pair (.pair (.int .i64) (.pair (.int .i64) .unit)) (.pair (.int .i64) .unit)) a0.2.2.2.2.2.2.2.2.1 a1.2.2.2.2.2.2.2.2.1) false) (a0.2.2.2.2.2.2.2.2.2.1 == a1.2.2.2.2.2.2.2.2.2.1) false) (a0.2.2.2.2.2.2.2.2.2.2.2.1 == a1.2.2.2.2.2.2.2.2.2.2.2.1) false)
         (bd (F_slicesEqualapiCut k a0.2.2.2.2.2.2.2.2.2.2.1 a1.2.2.2.2.2.2.2.2.2.2.1) (fun (r : ((Bool) × (Unit)) × (Unit)) => (some ((r.1.1, ()), ()))))
         (some ((false, ()), ())))
        (br (cond (cond (cond (cond (cond (cond (cond (cond (cond (cond (a0.1 == a1.1) (denEq (.pair (.int .i64) (.pair (.int .i64) .unit)) a0.2.1 a1.2.1) false) (a0.2.2.1 == a1.2.2.1) false) (denEq (.pair (.int .i64) (.pair (.int .i64) .unit)) a0.2.2.2.1 a1.2.2.2.1) false) (denEq (.pair (.int .i64) (.pair (.int .i64) .unit)) a0.2.2.2.2.1 a1.2.2.2.2.1) false) (a0.2.2.2.2.2.1 == a1.2.2.2.2.2.1) false) (denEq (.pair (.int .i64) (.pair (.int .i64) .unit)) a0.2.2.2.2.2.2.1 a1.2.2.2.2.2.2.1) false) (denEq (.pair (.pair (.int .i64) (.pair (.int .i64) .unit)) (.pair (.int .i64) .unit)) a0.2.2.2.2.2.2.2.1 a1.2.2.2.2.2.2.2.1) false) (denEq (.pair (.pair (.int .i64) (.pair (.int .i64) .unit)) (.pair (.int .i64) .unit)) a0.2.2.2.2.2.2.2.2.1 a1.2.2.2.2.2.2.2.2.1) false) (a0.2.2.2.2.2.2.2.2.2.1 == a1.2.2.2.2.2.2.2.2.2.1) false) (a0.2.2.2.2.2.2.2.2.2.2.2.1 == a1.2.2.2.2.2.2.2.2.2.2.2.1) false)
         (bd (F_slicesEqualapiCut k a0.2.2.2.2.2.2.2.2.2.2.1 a1.2.2.2.2.2.2.2.2.2.2.1) (fun (r : ((Bool) × (Unit)) × (Unit)) => (some ((r.1.1, ()), ()))))
         (some ((false, ()), ()))))
       (both
        (both
         (br (cond (cond (cond (cond (cond (cond (cond (cond (cond (cond (a0.1 == a1.1) (denEq (.pair (.int .i64) (.pair (.int .i64) .unit)) a0.2.1 a1.2.1) false) (a0.2.2.1 == a1.2.2.1) false) (denEq (.pair (.int .i64) (.pair (.int .i64) .unit)) a0.2.2.2.1 a1.2.2.2.1) false) (denEq (.pair (.int .i64) (.pair (.int .i64) .unit)) a0.2.2.2.2.1 a1.2.2.2.2.1) false) (a0.2.2.2.2.2.1 == a1.2.2.2.2.2.1) false) (denEq (.pair (.int .i64) (.pair (.int .i64) .unit)) a0.2.2.2.2.2.2.1 a1.2.2.2.2.2.2.1) false) (denEq (.pair (.pair (.int .i64) (.pair (.int .i64) .unit)) (.pair (.int .i64) .unit)) a0.2.2.2.2.2.2.2.1 a1.2.2.2.2.2.2.2.1) false) (denEq (.pair (.pair (.int .i64) (.pair (.int .i64) .unit)) (.pair (.int .i64) .unit)) a0.2.2.2.2.2.2.2.2.1 a1.2.2.2.2.2.2.2.2.1) false) (a0.2.2.2.2.2.2.2.2.2.1 == a1.2.2.2.2.2.2.2.2.2.1) false) (a0.2.2.2.2.2.2.2.2.2.2.2.1 == a1.2.2.2.2.2.2.2.2.2.2.2.1) false)
          (bd (F_slicesEqualapiCut k a0.2.2.2.2.2.2.2.2.2.2.1 a1.2.2.2.2.2.2.2.2.2.2.1) (fun (r : ((Bool) × (Unit)) × (Unit)) => (some ((r.1.1, ()), ()))))
          (some ((false, ()), ())))
         (br (cond (cond (cond (cond (cond (cond (cond (cond (cond (cond (a0.1 == a1.1) (denEq (.pair (.int .i64) (.pair (.int .i64) .unit)) a0.2.1 a1.2.1) false) (a0.2.2.1 == a1.2.2.1) false) (denEq (.pair (.int .i64) (.pair (.int .i64) .unit)) a0.2.2.2.1 a1.2.2.2.1) false) (denEq (.pair (.int .i64) (.pair (.int .i64) .unit)) a0.2.2.2.2.1 a1.2.2.2.2.1) false) (a0.2.2.2.2.2.1 == a1.2.2.2.2.2.1) false) (denEq (.pair (.int .i64) (.pair (.int .i64) .unit)) a0.2.2.2.2.2.2.1 a1.2.2.2.2.2.2.1) false) (denEq (.pair (.pair (.int .i64) (.pair (.int .i64) .unit)) (.pair (.int .i64) .unit)) a0.2.2.2.2.2.2.2.1 a1.2.2.2.2.2.2.2.1) false) (denEq (.pair (.pair (.int .i64) (.pair (.int .i64) .unit)) (.pair (.int .i64) .unit)) a0.2.2.2.2.2.2.2.2.1 a1.2.2.2.2.2.2.2.2.1) false) (a0.2.2.2.2.2.2.2.2.2.1 == a1.2.2.2.2.2.2.2.2.2.1) false) (a0.2.2.2.2.2.2.2.2.2.2.2.1 == a1.2.2.2.2.2.2.2.2.2.2.2.1) false)
          (bd (F_slicesEqualapiCut k a0.2.2.2.2.2.2.2.2.2.2.1 a1.2.2.2.2.2.2.2.2.2.2.1) (fun (r : ((Bool) × (Unit)) × (Unit)) => (some ((r.1.1, ()), ()))))
          (some ((false, ()), ()))))
        (br (cond (cond (cond (cond (cond (cond (cond (cond (cond (cond (a0.1 == a1.1) (denEq (.pair (.int .i64) (.pair (.int .i64) .unit)) a0.2.1 a1.2.1) false) (a0.2.2.1 == a1.2.2.1) false) (denEq (.pair (.int .i64) (.pair (.int .i64) .unit)) a0.2.2.2.1 a1.2.2.2.1) false) (denEq (.pair (.int .i64) (.pair (.int .i64) .unit)) a0.2.2.2.2.1 a1.2.2.2.2.1) false) (a0.2.2.2.2.2.1 == a1.2.2.2.2.2.1) false) (denEq (.pair (.int .i64) (.pair (.int .i64) .unit)) a0.2.2.2.2.2.2.1 a1.2.2.2.2.2.2.1) false) (denEq (.pair (.pair (.int .i64) (.pair (.int .i64) .unit)) (.pair (.int .i64) .unit)) a0.2.2.2.2.2.2.2.1 a1.2.2.2.2.2.2.2.1) false) (denEq (.pair (.pair (.int .i64) (.pair (.int .i64) .unit)) (.pair (.int .i64) .unit)) a0.2.2.2.2.2.2.2.2.1 a1.2.2.2.2.2.2.2.2.1) false) (a0.2.2.2.2.2.2.2.2.2.1 == a1.2.2.2.2.2.2.2.2.2.1) false) (a0.2.2.2.2.2.2.2.2.2.2.2.1 == a1.2.2.2.2.2.2.2.2.2.2.2.1) false)
         (bd (F_slicesEqualapiCut k a0.2.2.2.2.2.2.2.2.2.2.1 a1.2.2.2.2.2.2.2.2.2.2.1) (fun (r : ((Bool) × (Unit)) × (Unit)) => (some ((r.1.1, ()), ()))))
         (some ((false, ()), ()))))))))) by kernel_rfl).trans (by simp only [both_self])

end Go.Proofs.YtkfikongenapfaaDoor.E

namespace Go.Proofs.YtkfikongenapfaaDoor.E
open Go
set_option linter.unusedVariables false
set_option maxRecDepth 100000
noncomputable def F_opRight (k : Nat) (a0 : TOp) : Option (((Bool) × (Unit)) × (Unit)) := fnE E0 k 27 (a0, ())

noncomputable def F_opEncode (k : Nat) (a0 : TOp) : Option ((Cur) × (Unit)) := fnE E0 k 26 (a0, ())

noncomputable def F_opDecode (k : Nat) (a0 : List (Int)) : Option (((TOp) × ((Bool) × (Unit))) × (Unit)) := fnE E0 k 28 (a0, ())

noncomputable def F_opNeeds (k : Nat) (a0 : TOp) : Option (((List (TId)) × (Unit)) × (Unit)) := fnE E0 k 33 (a0, ())

noncomputable def F_opDecodeAll (k : Nat) (a0 : List (Int)) : Option (((List (TOp)) × ((Bool) × (Unit))) × (Unit)) := fnE E0 k 37 (a0, ())

noncomputable def F_opEncodeAll (k : Nat) (a0 : List (TOp)) : Option ((Cur) × (Unit)) := fnE E0 k 40 (a0, ())

noncomputable def F_ref00Long (k : Nat) (a0 : List (TOp)) (a1 : Int) : Option (((Bool) × (Unit)) × (Unit)) := fnE E0 k 25 (a0, a1, ())

noncomputable def F_ref00SameOp (k : Nat) (a0 : TOp) (a1 : TOp) : Option (((Bool) × (Unit)) × (Unit)) := fnE E0 k 29 (a0, a1, ())

noncomputable def F_ref00SameOps (k : Nat) (a0 : List (TOp)) (a1 : List (TOp)) : Option (((Bool) × (Unit)) × (Unit)) := fnE E0 k 39 (a0, a1, ())

noncomputable def L_opRight_0 (k : Nat) (s0 : TOp) (s1 : Unit) (s2 : List (Int)) (s3 : Int) : Nat → (Bool) × ((Int) × ((TOp) × (Unit))) → Option (LO ((Bool) × (Unit)) ((Bool) × ((Int) × ((TOp) × (Unit)))) ((TOp) × (Unit))) :=
  loopF true 0 48 28000000 27 cut28000000_27_0 (s0, s1, s2, s3, ()) (fun σ K => bodyAt E0 (fnE E0 k) (inl5 E0 (fnE E0 k) k) 27 (rvOf 27) k (codeOf 27 0) _ σ K)

theorem L_opRight_0_step (k m : Nat) (s0 : TOp) (s1 : Unit) (s2 : List (Int)) (s3 : Int) (x0 : Bool) (x1 : Int) (x2 : TOp) : L_opRight_0 k s0 s1 s2 s3 (m + 1) (x0, x1, x2, ()) =
  (br (decide (x1 < s3))
   (br (inB x1 (List.length s2))
    (bd (F_oppartright k (List.getD s2 (Int.toNat x1) (0 : Int)) s0) (fun (r : ((Bool) × (Unit)) × (Unit)) => (br (!r.1.1)
      (some (.ret (false, ()) (x2, ())))
      (bd (F_oppartcopy k (List.getD s2 (Int.toNat x1) (0 : Int)) x2 s0) (fun (r1 : (Unit) × ((TOp) × (Unit))) => (L_opRight_0 k s0 s1 s2 s3 m (x0, ((IntKind.wrap (IntKind.i64) (x1 + (1 : Int))), (r1.2.1, ())))))))))
    none)
   (some (.brk (x0, (x1, (x2, ())))))) := by kernel_rfl

theorem F_opRight_step (k : Nat) (a0 : TOp) : F_opRight (k + 1) a0 =
  (bd (F_opparts k a0.1) (fun (r : ((List (Int)) × (Unit)) × (Unit)) => (br ((((List.length r.1.1) : Nat) : Int) == (0 : Int))
    (some ((false, ()), ()))
    (bd (F_stampRightStamp k (a0.2.2.1, (a0.2.1.1, ()))) (fun (r1 : ((Bool) × (Unit)) × (Unit)) => (br (cond false true (!r1.1.1))
      (some ((false, ()), ()))
      (bd (F_stampRightOp k a0.2.1) (fun (r2 : ((Bool) × (Unit)) × (Unit)) => (br (cond false true (!r2.1.1))
        (some ((false, ()), ()))
        (bd (F_opbare k a0) (fun (r3 : ((TOp) × (Unit)) × (Unit)) => (bdL (L_opRight_0 k a0 () r.1.1 (((List.length r.1.1) : Nat) : Int) k (false, ((0 : Int), (r3.1.1, ()))))
          (fun (b : (Bool) × ((Int) × ((TOp) × (Unit)))) => (bd (F_opSame k b.2.2.1 a0) (fun (r4 : ((Bool) × (Unit)) × (Unit)) => (some ((r4.1.1, ()), ())))))
          (fun (j : Nat) => (fun (b : (Bool) × ((Int) × ((TOp) × (Unit)))) => none))
          (fun (q : (Bool) × (Unit)) => (fun (b : (TOp) × (Unit)) => (some (q, ())))))))))))))))) := by kernel_rfl

noncomputable def L_opEncode_0 (k : Nat) (s0 : TOp) (s1 : Unit) (s2 : List (Int)) (s3 : Int) : Nat → (Int) × (((List (Int)) × (Unit)) × (Unit)) → Option (LO (Cur) ((Int) × (((List (Int)) × (Unit)) × (Unit))) (((List (Int)) × (Unit)) × (Unit))) :=
  loopF true 0 43 27000000 26 cut27000000_26_0 (s0, s1, s2, s3, ()) (fun σ K => bodyAt E0 (fnE E0 k) (inl5 E0 (fnE E0 k) k) 26 (rvOf 26) k (codeOf 26 0) _ σ K)

theorem L_opEncode_0_step (k m : Nat) (s0 : TOp) (s1 : Unit) (s2 : List (Int)) (s3 : Int) (x0 : Int) (x1 : (List (Int)) × (Unit)) : L_opEncode_0 k s0 s1 s2 s3 (m + 1) (x0, x1, ()) =
  (br (decide (x0 < s3))
   (br (inB x0 (List.length s2))
    (bd (F_oppartput k (List.getD s2 (Int.toNat x0) (0 : Int)) x1 s0) (fun (r : (Unit) × (((List (Int)) × (Unit)) × (Unit))) => (L_opEncode_0 k s0 s1 s2 s3 m ((IntKind.wrap (IntKind.i64) (x0 + (1 : Int))), (r.2.1, ())))))
    none)
   (some (.brk (x0, (x1, ()))))) := by kernel_rfl

theorem F_opEncode_step (k : Nat) (a0 : TOp) : F_opEncode (k + 1) a0 =
  (bd (F_opRight k a0) (fun (r : ((Bool) × (Unit)) × (Unit)) => (br (!r.1.1)
    (some ((([] : List (Int)), (false, ())), ()))
    (bd (F_opwriternums k (([] : List (Int)), ()) (a0.1 :: ([] : List (Int)))) (fun (r1 : (Unit) × (((List (Int)) × (Unit)) × (Unit))) => (bd (F_opwritername k r1.2.1 a0.2.1) (fun (r2 : (Unit) × (((List (Int)) × (Unit)) × (Unit))) => (bd (F_opwriternums k r2.2.1 (a0.2.2.1 :: ([] : List (Int)))) (fun (r3 : (Unit) × (((List (Int)) × (Unit)) × (Unit))) => (bd (F_opparts k a0.1) (fun (r4 : ((List (Int)) × (Unit)) × (Unit)) => (bdL (L_opEncode_0 k a0 () r4.1.1 (((List.length r4.1.1) : Nat) : Int) k ((0 : Int), (r3.2.1, ())))
         (fun (b : (Int) × (((List (Int)) × (Unit)) × (Unit))) => (some ((b.2.1.1, (true, ())), ())))
         (fun (j : Nat) => (fun (b : (Int) × (((List (Int)) × (Unit)) × (Unit))) => none))
         (fun (q : Cur) => (fun (b : ((List (Int)) × (Unit)) × (Unit)) => (some (q, ())))))))))))))))) := by kernel_rfl

noncomputable def L_opDecode_0 (k : Nat) (s0 : Unit) (s1 : Unit) (s2 : List (Int)) (s3 : Int) : Nat → (Int) × (((Cur) × (Unit)) × ((TOp) × (Unit))) → Option (LO ((TOp) × ((Bool) × (Unit))) ((Int) × (((Cur) × (Unit)) × ((TOp) × (Unit)))) (((Cur) × (Unit)) × ((TOp) × (Unit)))) :=
  loopF true 0 43 29000000 28 cut29000000_28_0 (s0, s1, s2, s3, ()) (fun σ K => bodyAt E0 (fnE E0 k) (inl5 E0 (fnE E0 k) k) 28 (rvOf 28) k (codeOf 28 0) _ σ K)

theorem L_opDecode_0_step (k m : Nat) (s0 : Unit) (s1 : Unit) (s2 : List (Int)) (s3 : Int) (x0 : Int) (x1 : (Cur) × (Unit)) (x2 : TOp) : L_opDecode_0 k s0 s1 s2 s3 (m + 1) (x0, x1, x2, ()) =
  (br (decide (x0 < s3))
   (br (inB x0 (List.length s2))
    (bd (F_opparttake k (List.getD s2 (Int.toNat x0) (0 : Int)) (x1.1, ()) x2) (fun (r : (Unit) × ((Cur) × ((TOp) × (Unit)))) => (L_opDecode_0 k s0 s1 s2 s3 m ((IntKind.wrap (IntKind.i64) (x0 + (1 : Int))), ((r.2.1, x1.2), (r.2.2.1, ()))))))
    none)
   (some (.brk (x0, (x1, (x2, ())))))) := by kernel_rfl

theorem F_opDecode_step (k : Nat) (a0 : List (Int)) : F_opDecode (k + 1) a0 =
  (bd (F_numAt k a0) (fun (r : ((Cur) × (Unit)) × (Unit)) => (bd (F_opreadernum k (r.1.1, ())) (fun (r1 : ((Int) × (Unit)) × ((Cur) × (Unit))) => (bd (F_opreadername k (r1.2.1, ())) (fun (r2 : ((TId) × (Unit)) × ((Cur) × (Unit))) => (bd (F_opreadernum k (r2.2.1, ())) (fun (r3 : ((Int) × (Unit)) × ((Cur) × (Unit))) => (bd (F_opparts k r1.1.1) (fun (r4 : ((List (Int)) × (Unit)) × (Unit)) => (bdL (L_opDecode_0 k () () r4.1.1 (((List.length r4.1.1) : Nat) : Int) k ((0 : Int), ((r3.2.1, ()), ((r1.1.1, (r2.1.1, (r3.1.1, (((0 : Int), ((0 : Int), ())), (((0 : Int), ((0 : Int), ())), (([] : List UInt8), (((0 : Int), ((0 : Int), ())), ((((0 : Int), ((0 : Int), ())), ((0 : Int), ())), ((((0 : Int), ((0 : Int), ())), ((0 : Int), ())), (([] : List UInt8), (([] : List (TCut)), (false, ())))))))))))), ()))))
        (fun (b : (Int) × (((Cur) × (Unit)) × ((TOp) × (Unit)))) => (bd (F_numCursorEnd k b.2.1.1) (fun (r5 : ((Bool) × (Unit)) × (Unit)) => (br (!r5.1.1)
          (some ((zOp, (false, ())), ()))
          (bd (F_opRight k b.2.2.1) (fun (r6 : ((Bool) × (Unit)) × (Unit)) => (br (cond false true (!r6.1.1))
            (some ((zOp, (false, ())), ()))
            (some ((b.2.2.1, (true, ())), ())))))))))
        (fun (j : Nat) => (fun (b : (Int) × (((Cur) × (Unit)) × ((TOp) × (Unit)))) => none))
        (fun (q : (TOp) × ((Bool) × (Unit))) => (fun (b : ((Cur) × (Unit)) × ((TOp) × (Unit))) => (some (q, ()))))))))))))))) := by kernel_rfl

noncomputable def L_opNeeds_0 (k : Nat) (s0 : List (TCut)) (s1 : Int) : Nat → (List (TId)) × ((Int) × (Unit)) → Option (LO ((List (TId)) × (Unit)) ((List (TId)) × ((Int) × (Unit))) (Unit)) :=
  loopF true 0 56 34000000 33 cut34000000_33_0 (s0, s1, ()) (fun σ K => bodyAt E0 (fnE E0 k) (inl5 E0 (fnE E0 k) k) 33 (rvOf 33) k (codeOf 33 0) _ σ K)

noncomputable def L_opNeeds_2 (k : Nat) (s0 : List (TId)) (s1 : Int) : Nat → (List (TId)) × ((Int) × (Unit)) → Option (LO ((List (TId)) × (Unit)) ((List (TId)) × ((Int) × (Unit))) (Unit)) :=
  loopF true 2 56 34000000 33 cut34000000_33_2 (s0, s1, ()) (fun σ K => bodyAt E0 (fnE E0 k) (inl5 E0 (fnE E0 k) k) 33 (rvOf 33) k (codeOf 33 2) _ σ K)

theorem L_opNeeds_0_step (k m : Nat) (s0 : List (TCut)) (s1 : Int) (x0 : List (TId)) (x1 : Int) : L_opNeeds_0 k s0 s1 (m + 1) (x0, x1, ()) =
  (br (decide (x1 < s1))
   (br (inB x1 (List.length s0))
    (br (decide ((((List.length x0) + (List.length ((List.getD s0 (Int.toNat x1) (((0 : Int), ((0 : Int), ())), ((0 : Int), ((0 : Int), ())))).1 :: ([] : List (TId))))) * (16 : Nat)) ≤ (140737488355328 : Nat)))
     (L_opNeeds_0 k s0 s1 m ((x0 ++ ((List.getD s0 (Int.toNat x1) (((0 : Int), ((0 : Int), ())), ((0 : Int), ((0 : Int), ())))).1 :: ([] : List (TId)))), ((IntKind.wrap (IntKind.i64) (x1 + (1 : Int))), ())))
     none)
    none)
   (some (.brk (x0, (x1, ()))))) := by kernel_rfl

theorem L_opNeeds_2_step (k m : Nat) (s0 : List (TId)) (s1 : Int) (x0 : List (TId)) (x1 : Int) : L_opNeeds_2 k s0 s1 (m + 1) (x0, x1, ()) =
  (br (decide (x1 < s1))
   (br (inB x1 (List.length s0))
    (br ((List.getD s0 (Int.toNat x1) ((0 : Int), ((0 : Int), ()))).2.1 != (0 : Int))
     (bd (F_slicesContainsapiId k x0 (List.getD s0 (Int.toNat x1) ((0 : Int), ((0 : Int), ())))) (fun (r : ((Bool) × (Unit)) × (Unit)) => (br (cond true (!r.1.1) false)
       (br (decide ((((List.length x0) + (List.length ((List.getD s0 (Int.toNat x1) ((0 : Int), ((0 : Int), ()))) :: ([] : List (TId))))) * (16 : Nat)) ≤ (140737488355328 : Nat)))
        (L_opNeeds_2 k s0 s1 m ((x0 ++ ((List.getD s0 (Int.toNat x1) ((0 : Int), ((0 : Int), ()))) :: ([] : List (TId)))), ((IntKind.wrap (IntKind.i64) (x1 + (1 : Int))), ())))
        none)
       (L_opNeeds_2 k s0 s1 m (x0, ((IntKind.wrap (IntKind.i64) (x1 + (1 : Int))), ()))))))
     (L_opNeeds_2 k s0 s1 m (x0, ((IntKind.wrap (IntKind.i64) (x1 + (1 : Int))), ()))))
    none)
   (some (.brk (x0, (x1, ()))))) := by kernel_rfl

theorem F_opNeeds_step (k : Nat) (a0 : TOp) : F_opNeeds (k + 1) a0 =
  (bdL (L_opNeeds_0 k a0.2.2.2.2.2.2.2.2.2.2.1 (((List.length a0.2.2.2.2.2.2.2.2.2.2.1) : Nat) : Int) k ((a0.2.2.2.1 :: (a0.2.2.2.2.1 :: (a0.2.2.2.2.2.2.1 :: (a0.2.2.2.2.2.2.2.1.1 :: (a0.2.2.2.2.2.2.2.2.1.1 :: ([] : List (TId))))))), ((0 : Int), ())))
   (fun (b : (List (TId)) × ((Int) × (Unit))) => (bdL (L_opNeeds_2 k b.1 (((List.length b.1) : Nat) : Int) k (([] : List (TId)), ((0 : Int), ())))
    (fun (b1 : (List (TId)) × ((Int) × (Unit))) => (some ((b1.1, ()), ())))
    (fun (j : Nat) => (fun (b1 : (List (TId)) × ((Int) × (Unit))) => none))
    (fun (q : (List (TId)) × (Unit)) => (fun (b1 : Unit) => (some (q, ()))))))
   (fun (j : Nat) => (fun (b : (List (TId)) × ((Int) × (Unit))) => none))
   (fun (q : (List (TId)) × (Unit)) => (fun (b : Unit) => (some (q, ()))))) := by kernel_rfl

noncomputable def L_opDecodeAll_0 (k : Nat) (s0 : Unit) : Nat → (List (TOp)) × ((Bool) × ((List (TOp)) × ((Int) × (((Cur) × (Unit)) × (Unit))))) → Option (LO ((List (TOp)) × ((Bool) × (Unit))) ((List (TOp)) × ((Bool) × ((List (TOp)) × ((Int) × (((Cur) × (Unit)) × (Unit)))))) (((Cur) × (Unit)) × (Unit))) :=
  loopF true 0 38 38000000 37 cut38000000_37_0 (s0, ()) (fun σ K => bodyAt E0 (fnE E0 k) (inl5 E0 (fnE E0 k) k) 37 (rvOf 37) k (codeOf 37 0) _ σ K)

theorem L_opDecodeAll_0_step (k m : Nat) (s0 : Unit) (x0 : List (TOp)) (x1 : Bool) (x2 : List (TOp)) (x3 : Int) (x4 : (Cur) × (Unit)) : L_opDecodeAll_0 k s0 (m + 1) (x0, x1, x2, x3, x4, ()) =
  (br (decide (x3 > (0 : Int)))
   (bd (F_numCursorText k x4.1 (281474976710656 : Int)) (fun (r : ((List (UInt8)) × (Unit)) × ((Cur) × (Unit))) => (bd (F_opDecode k (List.map (fun (c : UInt8) => (((UInt8.toNat c) : Nat) : Int)) r.1.1)) (fun (r1 : ((TOp) × ((Bool) × (Unit))) × (Unit)) => (br (!r1.1.2.1)
      (some (.ret (([] : List (TOp)), (false, ())) ((r.2.1, x4.2), ())))
      (br (decide ((((List.length x2) + (List.length (r1.1.1 :: ([] : List (TOp))))) * (192 : Nat)) ≤ (140737488355328 : Nat)))
       (L_opDecodeAll_0 k s0 m (x0, (x1, ((x2 ++ (r1.1.1 :: ([] : List (TOp)))), ((IntKind.wrap (IntKind.i64) (x3 - (1 : Int))), ((r.2.1, x4.2), ()))))))
       none))))))
   (some (.brk (x0, (x1, (x2, (x3, (x4, ())))))))) := by kernel_rfl

theorem F_opDecodeAll_step (k : Nat) (a0 : List (Int)) : F_opDecodeAll (k + 1) a0 =
  (bd (F_numAt k a0) (fun (r : ((Cur) × (Unit)) × (Unit)) => (bd (F_numCursorNum k r.1.1 (1048576 : Int)) (fun (r1 : ((Int) × (Unit)) × ((Cur) × (Unit))) => (bdL (L_opDecodeAll_0 k () k (([] : List (TOp)), (false, (([] : List (TOp)), (r1.1.1, ((r1.2.1, ()), ()))))))
     (fun (b : (List (TOp)) × ((Bool) × ((List (TOp)) × ((Int) × (((Cur) × (Unit)) × (Unit)))))) => (bd (F_numCursorEnd k b.2.2.2.2.1.1) (fun (r2 : ((Bool) × (Unit)) × (Unit)) => (br (!r2.1.1)
       (some ((([] : List (TOp)), (false, ())), ()))
       (some ((b.2.2.1, (true, ())), ()))))))
     (fun (j : Nat) => (fun (b : (List (TOp)) × ((Bool) × ((List (TOp)) × ((Int) × (((Cur) × (Unit)) × (Unit)))))) => none))
     (fun (q : (List (TOp)) × ((Bool) × (Unit))) => (fun (b : ((Cur) × (Unit)) × (Unit)) => (some (q, ()))))))))) := by kernel_rfl

noncomputable def L_opEncodeAll_0 (k : Nat) (s0 : Unit) (s1 : List (TOp)) (s2 : Int) : Nat → (List (Int)) × ((Bool) × ((Int) × (((List (Int)) × (Unit)) × (Unit)))) → Option (LO (Cur) ((List (Int)) × ((Bool) × ((Int) × (((List (Int)) × (Unit)) × (Unit))))) (((List (Int)) × (Unit)) × (Unit))) :=
  loopF true 0 38 41000000 40 cut41000000_40_0 (s0, s1, s2, ()) (fun σ K => bodyAt E0 (fnE E0 k) (inl5 E0 (fnE E0 k) k) 40 (rvOf 40) k (codeOf 40 0) _ σ K)

theorem L_opEncodeAll_0_step (k m : Nat) (s0 : Unit) (s1 : List (TOp)) (s2 : Int) (x0 : List (Int)) (x1 : Bool) (x2 : Int) (x3 : (List (Int)) × (Unit)) : L_opEncodeAll_0 k s0 s1 s2 (m + 1) (x0, x1, x2, x3, ()) =
  (br (decide (x2 < s2))
   (br (inB x2 (List.length s1))
    (bd (F_opEncode k (List.getD s1 (Int.toNat x2) ((0 : Int), (((0 : Int), ((0 : Int), ())), ((0 : Int), (((0 : Int), ((0 : Int), ())), (((0 : Int), ((0 : Int), ())), (([] : List (UInt8)), (((0 : Int), ((0 : Int), ())), ((((0 : Int), ((0 : Int), ())), ((0 : Int), ())), ((((0 : Int), ((0 : Int), ())), ((0 : Int), ())), (([] : List (UInt8)), (([] : List (TCut)), (false, ())))))))))))))) (fun (r : (Cur) × (Unit)) => (br (!r.1.2.1)
      (some (.ret (([] : List (Int)), (false, ())) (x3, ())))
      (bd (F_opwritertext k x3 (List.map (fun (n : Int) => (UInt8.ofNat (Int.toNat n))) r.1.1)) (fun (r1 : (Unit) × (((List (Int)) × (Unit)) × (Unit))) => (L_opEncodeAll_0 k s0 s1 s2 m (x0, (x1, ((IntKind.wrap (IntKind.i64) (x2 + (1 : Int))), (r1.2.1, ()))))))))))
    none)
   (some (.brk (x0, (x1, (x2, (x3, ()))))))) := by kernel_rfl

theorem F_opEncodeAll_step (k : Nat) (a0 : List (TOp)) : F_opEncodeAll (k + 1) a0 =
  (bd (F_opwriternums k (([] : List (Int)), ()) ((((List.length a0) : Nat) : Int) :: ([] : List (Int)))) (fun (r : (Unit) × (((List (Int)) × (Unit)) × (Unit))) => (bdL (L_opEncodeAll_0 k () a0 (((List.length a0) : Nat) : Int) k (([] : List (Int)), (false, ((0 : Int), (r.2.1, ())))))
    (fun (b : (List (Int)) × ((Bool) × ((Int) × (((List (Int)) × (Unit)) × (Unit))))) => (some ((b.2.2.2.1.1, (true, ())), ())))
    (fun (j : Nat) => (fun (b : (List (Int)) × ((Bool) × ((Int) × (((List (Int)) × (Unit)) × (Unit))))) => none))
    (fun (q : Cur) => (fun (b : ((List (Int)) × (Unit)) × (Unit)) => (some (q, ()))))))) := by kernel_rfl

noncomputable def L_ref00Long_0 (k : Nat) (s0 : List (TOp)) : Nat → (Bool) × ((Int) × (Unit)) → Option (LO ((Bool) × (Unit)) ((Bool) × ((Int) × (Unit))) (Unit)) :=
  loopF true 0 41 26000000 25 cut26000000_25_0 (s0, ()) (fun σ K => bodyAt E0 (fnE E0 k) (inl5 E0 (fnE E0 k) k) 25 (rvOf 25) k (codeOf 25 0) _ σ K)

theorem L_ref00Long_0_step (k m : Nat) (s0 : List (TOp)) (x0 : Bool) (x1 : Int) : L_ref00Long_0 k s0 (m + 1) (x0, x1, ()) =
  (br (decide (x1 < (((List.length s0) : Nat) : Int)))
   (br (inB x1 (List.length s0))
    (br (decide ((((List.length (List.getD s0 (Int.toNat x1) ((0 : Int), (((0 : Int), ((0 : Int), ())), ((0 : Int), (((0 : Int), ((0 : Int), ())), (((0 : Int), ((0 : Int), ())), (([] : List (UInt8)), (((0 : Int), ((0 : Int), ())), ((((0 : Int), ((0 : Int), ())), ((0 : Int), ())), ((((0 : Int), ((0 : Int), ())), ((0 : Int), ())), (([] : List (UInt8)), (([] : List (TCut)), (false, ()))))))))))))).2.2.2.2.2.2.2.2.2.1) : Nat) : Int) > (200 : Int)))
     (some (.ret (true, ()) ()))
     (br (inB x1 (List.length s0))
      (br (cond false true (decide ((((List.length (List.getD s0 (Int.toNat x1) ((0 : Int), (((0 : Int), ((0 : Int), ())), ((0 : Int), (((0 : Int), ((0 : Int), ())), (((0 : Int), ((0 : Int), ())), (([] : List (UInt8)), (((0 : Int), ((0 : Int), ())), ((((0 : Int), ((0 : Int), ())), ((0 : Int), ())), ((((0 : Int), ((0 : Int), ())), ((0 : Int), ())), (([] : List (UInt8)), (([] : List (TCut)), (false, ()))))))))))))).2.2.2.2.2.1) : Nat) : Int) > (200 : Int))))
       (some (.ret (true, ()) ()))
       (br (inB x1 (List.length s0))
        (br (cond false true (decide ((((List.length (List.getD s0 (Int.toNat x1) ((0 : Int), (((0 : Int), ((0 : Int), ())), ((0 : Int), (((0 : Int), ((0 : Int), ())), (((0 : Int), ((0 : Int), ())), (([] : List (UInt8)), (((0 : Int), ((0 : Int), ())), ((((0 : Int), ((0 : Int), ())), ((0 : Int), ())), ((((0 : Int), ((0 : Int), ())), ((0 : Int), ())), (([] : List (UInt8)), (([] : List (TCut)), (false, ()))))))))))))).2.2.2.2.2.2.2.2.2.2.1) : Nat) : Int) > (40 : Int))))
         (some (.ret (true, ()) ()))
         (L_ref00Long_0 k s0 m (x0, ((IntKind.wrap (IntKind.i64) (x1 + (1 : Int))), ()))))
        none))
      none))
    none)
   (some (.brk (x0, (x1, ()))))) := by kernel_rfl

theorem F_ref00Long_step (k : Nat) (a0 : List (TOp)) (a1 : Int) : F_ref00Long (k + 1) a0 a1 =
  (br (decide ((((List.length a0) : Nat) : Int) > a1))
   (some ((true, ()), ()))
   (bdL (L_ref00Long_0 k a0 k (false, ((0 : Int), ())))
    (fun (b : (Bool) × ((Int) × (Unit))) => (some ((false, ()), ())))
    (fun (j : Nat) => (fun (b : (Bool) × ((Int) × (Unit))) => none))
    (fun (q : (Bool) × (Unit)) => (fun (b : Unit) => (some (q, ())))))) := by kernel_rfl

noncomputable def L_ref00SameOp_0 (k : Nat) (s0 : TOp) (s1 : TOp) : Nat → (Bool) × ((Int) × (Unit)) → Option (LO ((Bool) × (Unit)) ((Bool) × ((Int) × (Unit))) (Unit)) :=
  loopF true 0 108 30000000 29 cut30000000_29_0 (s0, s1, ()) (fun σ K => bodyAt E0 (fnE E0 k) (inl5 E0 (fnE E0 k) k) 29 (rvOf 29) k (codeOf 29 0) _ σ K)

theorem L_ref00SameOp_0_step (k m : Nat) (s0 : TOp) (s1 : TOp) (x0 : Bool) (x1 : Int) : L_ref00SameOp_0 k s0 s1 (m + 1) (x0, x1, ()) =
  (br (decide (x1 < (((List.length s0.2.2.2.2.2.2.2.2.2.2.1) : Nat) : Int)))
   (both
    (br (inB x1 (List.length s0.2.2.2.2.2.2.2.2.2.2.1))
     (br (inB x1 (List.length s1.2.2.2.2.2.2.2.2.2.2.1))
       (br (!(denEq (.pair (.pair (.int .i64) (.pair (.int .i64) .unit)) (.pair (.int .i64) (.pair (.int .i64) .unit))) (List.getD s0.2.2.2.2.2.2.2.2.2.2.1 (Int.toNat x1) (((0 : Int), ((0 : Int), ())), ((0 : Int), ((0 : Int), ())))) (List.getD s1.2.2.2.2.2.2.2.2.2.2.1 (Int.toNat x1) (((0 : Int), ((0 : Int), ())), ((0 : Int), ((0 : Int), ()))))))
        (some (.ret (false, ()) ()))
        (L_ref00SameOp_0 k s0 s1 m (x0, ((IntKind.wrap (IntKind.i64) (x1 + (1 : Int))), ()))))
       none)
     none)
    (br (inB x1 (List.length s1.2.2.2.2.2.2.2.2.2.2.1))
     (br (inB x1 (List.length s0.2.2.2.2.2.2.2.2.2.2.1))
       (br (!(denEq (.pair (.pair (.int .i64) (.pair (.int .i64) .unit)) (.pair (.int .i64) (.pair (.int .i64) .unit))) (List.getD s0.2.2.2.2.2.2.2.2.2.2.1 (Int.toNat x1) (((0 : Int), ((0 : Int), ())), ((0 : Int), ((0 : Int), ())))) (List.getD s1.2.2.2.2.2.2.2.2.2.2.1 (Int.toNat x1) (((0 : Int), ((0 : Int), ())), ((0 : Int), ((0 : Int), ()))))))
         (some (.ret (false, ()) ()))
         (L_ref00SameOp_0 k s0 s1 m (x0, ((IntKind.wrap (IntKind.i64) (x1 + (1 : Int))), ()))))
       none)
     none))
   (some (.brk (x0, (x1, ()))))) :=
 (show L_ref00SameOp_0 k s0 s1 (m + 1) (x0, x1, ()) =
  (br (decide (x1 < (((List.length s0.2.2.2.2.2.2.2.2.2.2.1) : Nat) : Int)))
   (both
    (br (inB x1 (List.length s0.2.2.2.2.2.2.2.2.2.2.1))
     (both
      (br (inB x1 (List.length s1.2.2.2.2.2.2.2.2.2.2.1))
       (br (!(denEq (.pair (.pair (.int .i64) (.pair (.int .i64) .unit)) (.pair (.int .i64) (.pair (.int .i64) .unit))) (List.getD s0.2.2.2.2.2.2.2.2.2.2.1 (Int.toNat x1) (((0 : Int), ((0 : Int), ())), ((0 : Int), ((0 : Int), ())))) (List.getD s1.2.2.2.2.2.2.2.2.2.2.1 (Int.toNat x1) (((0 : Int), ((0 : Int), ())), ((0 : Int), ((0 : Int), ()))))))
        (some (.ret (false, ()) ()))
        (L_ref00SameOp_0 k s0 s1 m (x0, ((IntKind.wrap (IntKind.i64) (x1 + (1 : Int))), ()))))
       none)
      (br (inB x1 (List.length s1.2.2.2.2.2.2.2.2.2.2.1))
       (both
        (br (!(denEq (.pair (.pair (.int .i64) (.pair (.int .i64) .unit)) (.pair (.int .i64) (.pair (.int .i64) .unit))) (List.getD s0.2.2.2.2.2.2.2.2.2.2.1 (Int.toNat x1) (((0 : Int), ((0 : Int), ())), ((0 : Int), ((0 : Int), ())))) (List.getD s1.2.2.2.2.2.2.2.2.2.2.1 (Int.toNat x1) (((0 : Int), ((0 : Int), ())), ((0 : Int), ((0 : Int), ()))))))
         (some (.ret (false, ()) ()))
         (L_ref00SameOp_0 k s0 s1 m (x0, ((IntKind.wrap (IntKind.i64) (x1 + (1 : Int))), ()))))
        (br (!(denEq (.pair (.pair (.int .i64) (.pair (.int .i64) .unit)) (.pair (.int .i64) (.pair (.int .i64) .unit))) (List.getD s0.2.2.2.2.2.2.2.2.2.2.1 (Int.toNat x1) (((0 : Int), ((0 : Int), ())), ((0 : Int), ((0 : Int), ())))) (List.getD s1.2.2.2.2.2.2.2.2.2.2.1 (Int.toNat x1) (((0 : Int), ((0 : Int), ())), ((0 : Int), ((0 : Int), ()))))))
         (some (.ret (false, ()) ()))
         (L_ref00SameOp_0 k s0 s1 m (x0, ((IntKind.wrap (IntKind.i64) (x1 + (1 : Int))), ())))))
       none))
     none)
    (br (inB x1 (List.length s1.2.2.2.2.2.2.2.2.2.2.1))
     (both
      (br (inB x1 (List.length s0.2.2.2.2.2.2.2.2.2.2.1))
       (both
        (br (!(denEq (.pair (.pair (.int .i64) (.pair (.int .i64) .unit)) (.pair (.int .i64) (.pair (.int .i64) .unit))) (List.getD s0.2.2.2.2.2.2.2.2.2.2.1 (Int.toNat x1) (((0 : Int), ((0 : Int), ())), ((0 : Int), ((0 : Int), ())))) (List.getD s1.2.2.2.2.2.2.2.2.2.2.1 (Int.toNat x1) (((0 : Int), ((0 : Int), ())), ((0 : Int), ((0 : Int), ()))))))
         (some (.ret (false, ()) ()))
         (L_ref00SameOp_0 k s0 s1 m (x0, ((IntKind.wrap (IntKind.i64) (x1 + (1 : Int))), ()))))
        (br (!(denEq (.pair (.pair (.int .i64) (.pair (.int .i64) .unit)) (.pair (.int .i64) (.pair (.int .i64) .unit))) (List.getD s0.2.2.2.2.2.2.2.2.2.2.1 (Int.toNat x1) (((0 : Int), ((0 : Int), ())), ((0 : Int), ((0 : Int), ())))) (List.getD s1.2.2.2.2.2.2.2.2.2.2.1 (Int.toNat x1) (((0 : Int), ((0 : Int), ())), ((0 : Int), ((0 : Int), ()))))))
         (some (.ret (false, ()) ()))
         (L_ref00SameOp_0 k s0 s1 m (x0, ((IntKind.wrap (IntKind.i64) (x1 + (1 : Int))), ())))))
       none)
      (br (inB x1 (List.length s0.2.2.2.2.2.2.2.2.2.2.1))
       (br (!(denEq (.pair (.pair (.int .i64) (.pair (.int .i64) .unit)) (.pair (.int .i64) (.pair (.int .i64) .unit))) (List.getD s0.2.2.2.2.2.2.2.2.2.2.1 (Int.toNat x1) (((0 : Int), ((0 : Int), ())), ((0 : Int), ((0 : Int), ())))) (List.getD s1.2.2.2.2.2.2.2.2.2.2.1 (Int.toNat x1) (((0 : Int), ((0 : Int), ())), ((0 : Int), ((0 : Int), ()))))))
        (some (.ret (false, ()) ()))
        (L_ref00SameOp_0 k s0 s1 m (x0, ((IntKind.wrap (IntKind.i64) (x1 + (1 : Int))), ()))))
       none))
     none))
   (some (.brk (x0, (x1, ()))))) by kernel_rfl).trans (by simp only [both_self])

theorem F_ref00SameOp_step (k : Nat) (a0 : TOp) (a1 : TOp) : F_ref00SameOp (k + 1) a0 a1 =
  (br (cond (cond (cond (cond (cond (cond (cond (cond (cond (cond (cond (a0.1 != a1.1) true (!(denEq (.pair (.int .i64) (.pair (.int .i64) .unit)) a0.2.1 a1.2.1))) true (a0.2.2.1 != a1.2.2.1)) true (!(denEq (.pair (.int .i64) (.pair (.int .i64) .unit)) a0.2.2.2.1 a1.2.2.2.1))) true (!(denEq (.pair (.int .i64) (.pair (.int .i64) .unit)) a0.2.2.2.2.1 a1.2.2.2.2.1))) true (!(a0.2.2.2.2.2.1 == a1.2.2.2.2.2.1))) true (!(denEq (.pair (.int .i64) (.pair (.int .i64) .unit)) a0.2.2.2.2.2.2.1 a1.2.2.2.2.2.2.1))) true (!(denEq (.pair (.pair (.int .i64) (.pair (.int .i64) .unit)) (.pair (.int .i64) .unit)) a0.2.2.2.2.2.2.2.1 a1.2.2.2.2.2.2.2.1))) true (!(denEq (.pair (.pair (.int .i64) (.pair (.int .i64) .unit)) (.pair (.int .i64) .unit)) a0.2.2.2.2.2.2.2.2.1 a1.2.2.2.2.2.2.2.2.1))) true (!(a0.2.2.2.2.2.2.2.2.2.1 == a1.2.2.2.2.2.2.2.2.2.1))) true (!(a0.2.2.2.2.2.2.2.2.2.2.2.1 == a1.2.2.2.2.2.2.2.2.2.2.2.1))) true ((((List.length a0.2.2.2.2.2.2.2.2.2.2.1) : Nat) : Int) != (((List.length a1.2.2.2.2.2.2.2.2.2.2.1) : Nat) : Int)))
   (some ((false, ()), ()))
   (bdL (L_ref00SameOp_0 k a0 a1 k (false, ((0 : Int), ())))
    (fun (b : (Bool) × ((Int) × (Unit))) => (some ((true, ()), ())))
    (fun (j : Nat) => (fun (b : (Bool) × ((Int) × (Unit))) => none))
    (fun (q : (Bool) × (Unit)) => (fun (b : Unit) => (some (q, ())))))) := by kernel_rfl

noncomputable def L_ref00SameOps_0 (k : Nat) (s0 : List (TOp)) (s1 : List (TOp)) : Nat → (Bool) × ((Int) × (Unit)) → Option (LO ((Bool) × (Unit)) ((Bool) × ((Int) × (Unit))) (Unit)) :=
  loopF true 0 27 40000000 39 cut40000000_39_0 (s0, s1, ()) (fun σ K => bodyAt E0 (fnE E0 k) (inl5 E0 (fnE E0 k) k) 39 (rvOf 39) k (codeOf 39 0) _ σ K)

theorem L_ref00SameOps_0_step (k m : Nat) (s0 : List (TOp)) (s1 : List (TOp)) (x0 : Bool) (x1 : Int) : L_ref00SameOps_0 k s0 s1 (m + 1) (x0, x1, ()) =
  (br (decide (x1 < (((List.length s0) : Nat) : Int)))
   (br (inB x1 (List.length s0))
    (br (inB x1 (List.length s1))
     (bd (F_ref00SameOp k (List.getD s0 (Int.toNat x1) ((0 : Int), (((0 : Int), ((0 : Int), ())), ((0 : Int), (((0 : Int), ((0 : Int), ())), (((0 : Int), ((0 : Int), ())), (([] : List (UInt8)), (((0 : Int), ((0 : Int), ())), ((((0 : Int), ((0 : Int), ())), ((0 : Int), ())), ((((0 : Int), ((0 : Int), ())), ((0 : Int), ())), (([] : List (UInt8)), (([] : List (TCut)), (false, ()))))))))))))) (List.getD s1 (Int.toNat x1) ((0 : Int), (((0 : Int), ((0 : Int), ())), ((0 : Int), (((0 : Int), ((0 : Int), ())), (((0 : Int), ((0 : Int), ())), (([] : List (UInt8)), (((0 : Int), ((0 : Int), ())), ((((0 : Int), ((0 : Int), ())), ((0 : Int), ())), ((((0 : Int), ((0 : Int), ())), ((0 : Int), ())), (([] : List (UInt8)), (([] : List (TCut)), (false, ())))))))))))))) (fun (r : ((Bool) × (Unit)) × (Unit)) => (br (!r.1.1)
        (some (.ret (false, ()) ()))
        (L_ref00SameOps_0 k s0 s1 m (x0, ((IntKind.wrap (IntKind.i64) (x1 + (1 : Int))), ()))))))
     none)
    none)
   (some (.brk (x0, (x1, ()))))) :=
 (show L_ref00SameOps_0 k s0 s1 (m + 1) (x0, x1, ()) =
  (br (decide (x1 < (((List.length s0) : Nat) : Int)))
   (br (inB x1 (List.length s0))
    (br (inB x1 (List.length s1))
     (both
      (bd (F_ref00SameOp k (List.getD s0 (Int.toNat x1) ((0 : Int), (((0 : Int), ((0 : Int), ())), ((0 : Int), (((0 : Int), ((0 : Int), ())), (((0 : Int), ((0 : Int), ())), (([] : List (UInt8)), (((0 : Int), ((0 : Int), ())), ((((0 : Int), ((0 : Int), ())), ((0 : Int), ())), ((((0 : Int), ((0 : Int), ())), ((0 : Int), ())), (([] : List (UInt8)), (([] : List (TCut)), (false, ()))))))))))))) (List.getD s1 (Int.toNat x1) ((0 : Int), (((0 : Int), ((0 : Int), ())), ((0 : Int), (((0 : Int), ((0 : Int), ())), (((0 : Int), ((0 : Int), ())), (([] : List (UInt8)), (((0 : Int), ((0 : Int), ())), ((((0 : Int), ((0 : Int), ())), ((0 : Int), ())), ((((0 : Int), ((0 : Int), ())), ((0 : Int), ())), (([] : List (UInt8)), (([] : List (TCut)), (false, ())))))))))))))) (fun (r : ((Bool) × (Unit)) × (Unit)) => (br (!r.1.1)
        (some (.ret (false, ()) ()))
        (L_ref00SameOps_0 k s0 s1 m (x0, ((IntKind.wrap (IntKind.i64) (x1 + (1 : Int))), ()))))))
      (bd (F_ref00SameOp k (List.getD s0 (Int.toNat x1) ((0 : Int), (((0 : Int), ((0 : Int), ())), ((0 : Int), (((0 : Int), ((0 : Int), ())), (((0 : Int), ((0 : Int), ())), (([] : List (UInt8)), (((0 : Int), ((0 : Int), ())), ((((0 : Int), ((0 : Int), ())), ((0 : Int), ())), ((((0 : Int), ((0 : Int), ())), ((0 : Int), ())), (([] : List (UInt8)), (([] : List (TCut)), (false, ()))))))))))))) (List.getD s1 (Int.toNat x1) ((0 : Int), (((0 : Int), ((0 : Int), ())), ((0 : Int), (((0 : Int), ((0 : Int), ())), (((0 : Int), ((0 : Int), ())), (([] : List (UInt8)), (((0 : Int), ((0 : Int), ())), ((((0 : Int), ((0 : Int), ())), ((0 : Int), ())), ((((0 : Int), ((0 : Int), ())), ((0 : Int), ())), (([] : List (UInt8)), (([] : List (TCut)), (false, ())))))))))))))) (fun (r : ((Bool) × (Unit)) × (Unit)) => (br (!r.1.1)
        (some (.ret (false, ()) ()))
        (L_ref00SameOps_0 k s0 s1 m (x0, ((IntKind.wrap (IntKind.i64) (x1 + (1 : Int))), ())))))))
     none)
    none)
   (some (.brk (x0, (x1, ()))))) by kernel_rfl).trans (by simp only [both_self])

theorem F_ref00SameOps_step (k : Nat) (a0 : List (TOp)) (a1 : List (TOp)) : F_ref00SameOps (k + 1) a0 a1 =
  (br ((((List.length a0) : Nat) : Int) != (((List.length a1) : Nat) : Int))
   (some ((false, ()), ()))
   (bdL (L_ref00SameOps_0 k a0 a1 k (false, ((0 : Int), ())))
    (fun (b : (Bool) × ((Int) × (Unit))) => (some ((true, ()), ())))
    (fun (j : Nat) => (fun (b : (Bool) × ((Int) × (Unit))) => none))
    (fun (q : (Bool) × (Unit)) => (fun (b : Unit) => (some (q, ())))))) := by kernel_rfl

end Go.Proofs.YtkfikongenapfaaDoor.E

namespace Go.Proofs.YtkfikongenapfaaDoor.E
open Go
set_option linter.unusedSimpArgs false
set_option linter.unusedVariables false
instance decOp : DecidableEq TOp :=
  @instDecidableEqProd Int _ _ (@instDecidableEqProd TId _ _ (@instDecidableEqProd Int _ _ (@instDecidableEqProd TId _ _ (@instDecidableEqProd TId _ _ (@instDecidableEqProd (List UInt8) _ _ (@instDecidableEqProd TId _ _ (@instDecidableEqProd TChar _ _ (@instDecidableEqProd TChar _ _ (@instDecidableEqProd (List UInt8) _ _ (@instDecidableEqProd (List TCut) _ (@instDecidableEqList TCut inferInstance) (inferInstance : DecidableEq (Bool × Unit))))))))))))
theorem br_and (c d : Bool) : br c (some ((d, ()), ())) (some ((false, ()), ())) = some ((c && d, ()), ()) := by cases c <;> rfl

theorem F_opSame_eq (k : Nat) (a b : TOp) (h : a.2.2.2.2.2.2.2.2.2.2.1.length = b.2.2.2.2.2.2.2.2.2.2.1.length → a.2.2.2.2.2.2.2.2.2.2.1.length < k ∧ a.2.2.2.2.2.2.2.2.2.2.1.length ≤ 4611686018427387903) :
    F_opSame (k + 2) a b = some ((decide (a = b), ()), ()) := by
  obtain ⟨kd, i, t, blk, par, key, seg, lf, rt, tx, cu, fl, u⟩ := a
  obtain ⟨kd', i', t', blk', par', key', seg', lf', rt', tx', cu', fl', u'⟩ := b
  rw [F_opSame_step]
  dsimp only at h ⊢
  rw [F_slicesEqualapiCut_eq _ _ _ (fun e => ⟨by have := h e; omega, (h e).2⟩)]
  simp only [bd_s, eqI, eqC, cond_f]
  rw [br_and]
  congr 3
  rw [Bool.eq_iff_iff]
  simp only [decide_eq_true_eq, Prod.mk.injEq, Bool.and_eq_true, beq_iff_eq]
  constructor
  · rintro ⟨⟨⟨⟨⟨⟨⟨⟨⟨⟨⟨h1, h2⟩, h3⟩, h4⟩, h5⟩, h6⟩, h7⟩, h8⟩, h9⟩, h10⟩, h11⟩, h12⟩
    exact ⟨h1, h2, h3, h4, h5, h6, h7, h8, h9, h10, h12, h11, trivial⟩
  · rintro ⟨h1, h2, h3, h4, h5, h6, h7, h8, h9, h10, h11, h12, _⟩
    exact ⟨⟨⟨⟨⟨⟨⟨⟨⟨⟨⟨h1, h2⟩, h3⟩, h4⟩, h5⟩, h6⟩, h7⟩, h8⟩, h9⟩, h10⟩, h12⟩, h11⟩

/-- what a right op is made of -/
def own (o : TOp) : TOp := (parts o.1).foldl (fun a p => partCopy p a o) (bare o)

def right (o : TOp) : Bool :=
  !((parts o.1).length == 0) && rightStamp (o.2.2.1, o.2.1.1, ()) && rightOp o.2.1 && ((parts o.1).all fun p => partRight p o) && decide (own o = o)

theorem run_right {k : Nat} {o : TOp} {R : Type} (g : TOp → R) : ∀ (ps : List Int) (s : TOp),
    ((ps.all fun p => partRight p o) = true → runL (fun s p => if partRight p o = true then Sum.inl (partCopy p s o) else Sum.inr (g s)) s ps = .inl (ps.foldl (fun a p => partCopy p a o) s)) ∧
    ((ps.all fun p => partRight p o) = false → ∃ b, runL (fun s p => if partRight p o = true then Sum.inl (partCopy p s o) else Sum.inr (g s)) s ps = .inr (g b))
  | [], s => ⟨fun _ => rfl, fun h => by simp at h⟩
  | p :: ps, s => by
    obtain ⟨h1, h2⟩ := run_right (k := k) g ps (partCopy p s o)
    cases hp : partRight p o with
    | true =>
      refine ⟨fun h => ?_, fun h => ?_⟩
      · simp only [runL, hp, if_true]
        rw [h1 (by simpa [hp] using h)]; rfl
      · simp only [runL, hp, if_true]
        exact h2 (by simpa [hp] using h)
    | false =>
      refine ⟨fun h => by simp [hp] at h, fun h => ⟨s, by simp [runL, hp]⟩⟩

theorem cuts_le {o : TOp} (h : partRight 4 o = true) : o.2.2.2.2.2.2.2.2.2.2.1.length ≤ 16 := by
  obtain ⟨kd, i, t, blk, par, key, seg, lf, rt, tx, cu, fl, u⟩ := o
  simp [partRight] at h
  exact h.1.2

theorem parts_cases (n : Int) : (n = 1 ∧ parts n = [2]) ∨ (n = 2 ∧ parts n = [0, 2]) ∨ (n = 3 ∧ parts n = [1, 3]) ∨ (n = 4 ∧ parts n = [4]) ∨ (n = 5 ∧ parts n = [1, 2]) ∨ (n = 6 ∧ parts n = [0, 5]) ∨ parts n = [] := by
  unfold parts
  by_cases h1 : n = 1
  · exact .inl ⟨h1, by simp [h1]⟩
  by_cases h2 : n = 2
  · exact .inr (.inl ⟨h2, by simp [h2]⟩)
  by_cases h3 : n = 3
  · exact .inr (.inr (.inl ⟨h3, by simp [h3]⟩))
  by_cases h4 : n = 4
  · exact .inr (.inr (.inr (.inl ⟨h4, by simp [h4]⟩)))
  by_cases h5 : n = 5
  · exact .inr (.inr (.inr (.inr (.inl ⟨h5, by simp [h5]⟩))))
  by_cases h6 : n = 6
  · exact .inr (.inr (.inr (.inr (.inr (.inl ⟨h6, by simp [h6]⟩)))))
  · exact .inr (.inr (.inr (.inr (.inr (.inr (by simp [h1, h2, h3, h4, h5, h6]))))))

theorem own_cuts (o : TOp) : (own o).2.2.2.2.2.2.2.2.2.2.1 = [] ∨ ((own o).2.2.2.2.2.2.2.2.2.2.1 = o.2.2.2.2.2.2.2.2.2.2.1 ∧ 4 ∈ parts o.1) := by
  obtain ⟨kd, i, t, blk, par, key, seg, lf, rt, tx, cu, fl, u⟩ := o
  unfold own
  rcases parts_cases kd with ⟨_, h⟩ | ⟨_, h⟩ | ⟨_, h⟩ | ⟨_, h⟩ | ⟨_, h⟩ | ⟨_, h⟩ | h <;> simp [h, bare, partCopy]

theorem parts_len (n : Int) : (parts n).length ≤ 2 := by
  rcases parts_cases n with ⟨_, h⟩ | ⟨_, h⟩ | ⟨_, h⟩ | ⟨_, h⟩ | ⟨_, h⟩ | ⟨_, h⟩ | h <;> simp [h]

theorem F_opRight_eq (k : Nat) (o : TOp) : F_opRight (k + 60) o = some ((right o, ()), ()) := by
  rw [F_opRight_step, F_opparts_eq]
  simp only [bd_s]
  unfold right
  by_cases hl : (parts o.1).length = 0
  · rw [br_t (by simp [hl])]; simp [hl]
  · rw [br_f (by simp; intro e; exact hl (by simp [e])), F_stampRightStamp_eq]
    have hl' : ((parts o.1).length == 0) = false := by simp [hl]
    simp only [bd_s, Bool.cond_false, hl', Bool.not_false, Bool.true_and]
    cases h1 : rightStamp (o.2.2.1, o.2.1.1, ()) with
    | false => simp
    | true =>
      rw [br_f (by rfl), F_stampRightOp_eq]
      simp only [bd_s, Bool.true_and]
      cases h2 : rightOp o.2.1 with
      | false => simp
      | true =>
        rw [br_f (by rfl), F_opbare_eq]
        simp only [bd_s, Bool.true_and]
        have hpl := parts_len o.1
        have key := for_run0 (L := fun m i (s : TOp) => L_opRight_0 (k + 59) o () (parts o.1) ((parts o.1).length : Int) m (false, (i, (s, ())))) (l := parts o.1) (R := LO (Bool × Unit) (Bool × (Int × (TOp × Unit))) (TOp × Unit))
          (fun s p => if partRight p o = true then Sum.inl (partCopy p s o) else Sum.inr (.ret (false, ()) (s, ()))) (fun s => .brk (false, (((parts o.1).length : Int), (s, ())))) (fun _ _ => True)
          (fun m i s h _ => by
            refine ⟨?_, fun _ _ => trivial⟩
            show L_opRight_0 (k + 59) o () (parts o.1) ((parts o.1).length : Int) (m + 1) (false, ((i : Int), (s, ()))) = _
            rw [L_opRight_0_step, br_t (i_lt h), br_t (i_in h), getD_of h, i_nx (by omega), F_oppartright_eq]
            simp only [bd_s]
            cases hp : partRight (parts o.1)[i] o with
            | false => simp
            | true =>
              rw [br_f (by rfl), F_oppartcopy_eq _ _ _ _ (fun e => by rw [e] at hp; have := cuts_le hp; omega)]
              simp)
          (fun m s _ => by
            show L_opRight_0 (k + 59) o () (parts o.1) ((parts o.1).length : Int) (m + 1) (false, (((parts o.1).length : Int), (s, ()))) = _
            rw [L_opRight_0_step, br_f (i_ge _)])
          (k + 59) (bare o) (by omega) trivial
        rw [key]
        obtain ⟨r1, r2⟩ := run_right (k := k) (o := o) (fun s => (LO.ret (false, ()) (s, ()) : LO (Bool × Unit) (Bool × (Int × (TOp × Unit))) (TOp × Unit))) (parts o.1) (bare o)
        cases ha : (parts o.1).all fun p => partRight p o with
        | false =>
          obtain ⟨b, e⟩ := r2 ha
          rw [e]; simp
        | true =>
          rw [r1 ha]
          simp only [bdL_b]
          change bd (F_opSame (k + 59) (own o) o) _ = _
          rw [F_opSame_eq]
          · simp
          · intro hle
            rcases own_cuts o with hc | ⟨hc, h4⟩
            · rw [hc]; simp
            · rw [hc]
              have := cuts_le (List.all_eq_true.1 ha 4 h4)
              omega

/-- the parts, as bytes -/
def enc (o : TOp) : List Int := putN o.1 ++ (nameP o.2.1 ++ (putN o.2.2.1 ++ ((parts o.1).map fun p => partPut p o).flatten))

theorem right_small {o : TOp} (h : right o = true) : o.2.2.2.2.2.1.length ≤ 32 ∧ o.2.2.2.2.2.2.2.2.2.1.length ≤ 64 ∧ o.2.2.2.2.2.2.2.2.2.2.1.length ≤ 16 := by
  unfold right at h
  simp only [Bool.and_eq_true, decide_eq_true_eq] at h
  obtain ⟨⟨_, ha⟩, ho⟩ := h
  obtain ⟨kd, i, t, blk, par, key, seg, lf, rt, tx, cu, fl, u⟩ := o
  unfold own at ho
  rcases parts_cases kd with ⟨_, hp⟩ | ⟨_, hp⟩ | ⟨_, hp⟩ | ⟨_, hp⟩ | ⟨_, hp⟩ | ⟨_, hp⟩ | hp <;> simp [hp, bare, partCopy, partRight, rightKey] at ho ha ⊢ <;> simp_all <;> omega

theorem partPut_len {o : TOp} (h : smallOp o) (p : Int) : (partPut p o).length ≤ 100000 := by
  obtain ⟨kd, i, t, blk, par, key, seg, lf, rt, tx, cu, fl, u⟩ := o
  obtain ⟨h1, h2, h3⟩ := h
  simp only at h1 h2 h3
  unfold partPut
  dsimp only
  split
  · have := nameP_len blk; omega
  split
  · have := nameP_len seg; have := charP_len lf; have := charP_len rt; simp; omega
  split
  · have := nameP_len par; have := textP_len key h1; simp; omega
  split
  · have := textP_len tx h2; omega
  split
  · have := putN_len (cu.length : Int)
    have : ∀ l : List TCut, (l.map cutP).flatten.length ≤ 28 * l.length := by
      intro l
      induction l with
      | nil => simp
      | cons x l ih => have := cutP_len x; simp at ih ⊢; omega
    have := this cu
    simp only [List.length_append]; omega
  split
  · split
    · have := putN_len 1; omega
    · have := putN_len 0; omega
  · simp

theorem small_of_right {o : TOp} (h : right o = true) : smallOp o := by
  obtain ⟨h1, h2, h3⟩ := right_small h
  exact ⟨by omega, by omega, by omega⟩

theorem F_opEncode_eq (k : Nat) (o : TOp) : F_opEncode (k + 1200) o = some ((if right o = true then enc o else [], (right o, ())), ()) := by
  rw [F_opEncode_step, F_opRight_eq]
  simp only [bd_s]
  cases hr : right o with
  | false => simp
  | true =>
    have hs := small_of_right hr
    rw [br_f (by rfl), F_opwriternums_eq _ _ _ (by simp <;> omega) (by simp <;> omega)]
    simp only [bd_s]
    have h1 := putN_len o.1
    have h2 := nameP_len o.2.1
    have h3 := putN_len o.2.2.1
    rw [F_opwritername_eq _ _ _ (by simp <;> omega)]
    simp only [bd_s]
    rw [F_opwriternums_eq _ _ _ (by simp <;> omega) (by simp <;> omega)]
    simp only [bd_s]
    rw [F_opparts_eq]
    simp only [bd_s]
    generalize hw : (([] ++ (List.map putN [o.1]).flatten ++ nameP o.2.1 ++ (List.map putN [o.2.2.1]).flatten : List Int)) = w
    have hwl : w.length ≤ 100 := by rw [← hw]; simp; omega
    have hpl := parts_len o.1
    have key := for_run0 (L := fun m i (s : List Int × Unit) => L_opEncode_0 (k + 1199) o () (parts o.1) ((parts o.1).length : Int) m (i, (s, ()))) (l := parts o.1) (R := LO Cur (Int × ((List Int × Unit) × Unit)) ((List Int × Unit) × Unit))
      (fun s p => .inl (s.1 ++ partPut p o, ())) (fun s => .brk (((parts o.1).length : Int), (s, ()))) (fun i s => s.1.length ≤ 100 + 100000 * i)
      (fun m i s h hI => by
        constructor
        · show L_opEncode_0 (k + 1199) o () (parts o.1) ((parts o.1).length : Int) (m + 1) ((i : Int), (s, ())) = _
          obtain ⟨s, u⟩ := s
          rw [L_opEncode_0_step, br_t (i_lt h), br_t (i_in h), getD_of h, i_nx (by omega), F_oppartput_eq _ _ _ _ (by simp only at hI; omega) hs]
          simp
        · intro s' e
          have := partPut_len hs (parts o.1)[i]
          simp only [Sum.inl.injEq] at e
          subst e
          simp; omega)
      (fun m s hI => by
        show L_opEncode_0 (k + 1199) o () (parts o.1) ((parts o.1).length : Int) (m + 1) (((parts o.1).length : Int), (s, ())) = _
        rw [L_opEncode_0_step, br_f (i_ge _)])
      (k + 1199) (w, ()) (by omega) (by simp; omega)
    rw [key, runL_fold]
    have : ∀ (l : List Int) (w : List Int), l.foldl (fun (s : List Int × Unit) p => (s.1 ++ partPut p o, ())) (w, ()) = (w ++ (l.map fun p => partPut p o).flatten, ()) := by
      intro l
      induction l with
      | nil => intro w; simp
      | cons x l ih => intro w; simp [ih, List.append_assoc]
    rw [this, ← hw]
    simp [enc, List.append_assoc]

/-- an op out of bytes: what was taken, what is left -/
def decC (b : List Int) : Cur × TOp :=
  let k := numC (b, (false, ())) great
  let i := nameG k.2
  let t := numC i.2 great
  (parts k.1).foldl (fun s p => partGet p s.1 s.2) (t.2, (k.1, i.1, t.1, (0, 0, ()), (0, 0, ()), [], (0, 0, ()), ((0, 0, ()), 0, ()), ((0, 0, ()), 0, ()), [], [], false, ()))

def ended (c : Cur) : Bool := !c.2.1 && decide (c.1.length = 0)

def dec (b : List Int) : TOp × (Bool × Unit) := if (ended (decC b).1 && right (decC b).2) = true then ((decC b).2, (true, ())) else (zOp, (false, ()))

theorem fine_of {b : List Int} (hb : Byt b) (hl : b.length ≤ 140737488355328) : Fine (b, (false, ())) := ⟨⟨hb, fun h => by cases h⟩, hl⟩

theorem partGet_cuts {p : Int} {c : Cur} {o : TOp} (h : Fine c) : (partGet p c o).2.2.2.2.2.2.2.2.2.2.2.1.length ≤ o.2.2.2.2.2.2.2.2.2.2.1.length + 16 := by
  obtain ⟨kd, i, t, blk, par, key, seg, lf, rt, tx, cu, fl, u⟩ := o
  unfold partGet
  dsimp only
  repeat' split
  all_goals dsimp only
  all_goals first | omega | skip
  rw [List.length_append, cutsG_len]
  have := num_le h.1 (lim := 16) (by omega)
  omega

theorem F_opDecode_eq (k : Nat) (b : List Int) (hb : Byt b) (hl : b.length ≤ 140737488355328) : F_opDecode (k + 1200) b = some (dec b, ()) := by
  have h0 := fine_of hb hl
  rw [F_opDecode_step, F_numAt_eq _ _ hl]
  simp only [bd_s]
  rw [F_opreadernum_eq _ h0]
  simp only [bd_s]
  have h1 := fine_num h0 great
  rw [F_opreadername_eq _ h1]
  simp only [bd_s]
  have h2 := fine_name h1
  rw [F_opreadernum_eq _ h2]
  simp only [bd_s]
  have h3 := fine_num h2 great
  rw [F_opparts_eq]
  simp only [bd_s]
  unfold dec decC
  simp only
  generalize numC (b, (false, ())) great = kk at *
  generalize nameG kk.2 = ii at *
  generalize numC ii.2 great = tt at *
  have hpl := parts_len kk.1
  have key := for_run0 (L := fun m i (s : Cur × TOp) => L_opDecode_0 (k + 1199) () () (parts kk.1) ((parts kk.1).length : Int) m (i, ((s.1, ()), (s.2, ())))) (l := parts kk.1) (R := LO (TOp × (Bool × Unit)) (Int × ((Cur × Unit) × (TOp × Unit))) ((Cur × Unit) × (TOp × Unit)))
    (fun s p => .inl (partGet p s.1 s.2)) (fun s => .brk (((parts kk.1).length : Int), ((s.1, ()), (s.2, ())))) (fun i s => Fine s.1 ∧ s.2.2.2.2.2.2.2.2.2.2.2.1.length ≤ 16 * i)
    (fun m i s h hI => by
      constructor
      · show L_opDecode_0 (k + 1199) () () (parts kk.1) ((parts kk.1).length : Int) (m + 1) ((i : Int), ((s.1, ()), (s.2, ()))) = _
        rw [L_opDecode_0_step, br_t (i_lt h), br_t (i_in h), getD_of h, i_nx (by omega), F_opparttake_eq _ _ _ _ hI.1 (by have := hI.2; omega)]
        simp
      · intro s' e
        simp only [Sum.inl.injEq] at e
        subst e
        have := partGet_cuts (p := (parts kk.1)[i]) (o := s.2) hI.1
        exact ⟨fine_get hI.1, by have := hI.2; omega⟩)
    (fun m s hI => by
      show L_opDecode_0 (k + 1199) () () (parts kk.1) ((parts kk.1).length : Int) (m + 1) (((parts kk.1).length : Int), ((s.1, ()), (s.2, ()))) = _
      rw [L_opDecode_0_step, br_f (i_ge _)])
    (k + 1199) (tt.2, (kk.1, ii.1, tt.1, (0, 0, ()), (0, 0, ()), [], (0, 0, ()), ((0, 0, ()), 0, ()), ((0, 0, ()), 0, ()), [], [], false, ())) (by omega) ⟨h3, by simp⟩
  simp only at key
  rw [key, runL_fold]
  simp only [bdL_b]
  generalize List.foldl (fun s p => partGet p s.1 s.2) (tt.2, (kk.1, ii.1, tt.1, (0, 0, ()), (0, 0, ()), [], (0, 0, ()), ((0, 0, ()), 0, ()), ((0, 0, ()), 0, ()), [], [], false, ())) (parts kk.1) = s at *
  rw [F_numCursorEnd_eq]
  simp only [bd_s]
  change br (!(ended s.1)) _ _ = _
  cases he : ended s.1 with
  | false => simp
  | true =>
    rw [br_f (by rfl), F_opRight_eq]
    simp only [bd_s]
    cases hr : right s.2 with
    | false => simp
    | true => simp

end Go.Proofs.YtkfikongenapfaaDoor.E

