/- The forms of the functions, and plain laws on what they come to. No condition. -/
import Derived.Test.YtnffdeokhcojfaaN2

namespace Go.Proofs.Ytnffdeokhcojfaa.E
open Go
set_option linter.unusedVariables false
set_option maxRecDepth 100000

noncomputable def F43 (k : Nat) (a0 : Int) : Option (((List (Int)) × (Unit)) × (Unit)) := fnE E0 k 43 (a0, ())

noncomputable def F44 (k : Nat) (a0 : List (Int)) : Option (((Int) × (Unit)) × (Unit)) := fnE E0 k 44 (a0, ())

noncomputable def F46 (k : Nat)  : Option (((List (Int)) × (Unit)) × (Unit)) := fnE E0 k 46 ()

noncomputable def F17 (k : Nat) (a0 : List (Int)) : Option (((Int) × (Unit)) × (Unit)) := fnE E0 k 17 (a0, ())

noncomputable def F42 (k : Nat) (a0 : List (List (Int))) : Option (((List (Int)) × (Unit)) × (Unit)) := fnE E0 k 42 (a0, ())

noncomputable def F15 (k : Nat) (a0 : List (Int)) : Option (((List (Int)) × ((Bool) × (Unit))) × (Unit)) := fnE E0 k 15 (a0, ())

noncomputable def F16 (k : Nat) (a0 : List (Int)) (a1 : Int) : Option (((List (Int)) × ((Int) × ((Int) × (Unit)))) × (Unit)) := fnE E0 k 16 (a0, a1, ())

noncomputable def F28 (k : Nat) (a0 : List (Int)) : Option (((List (List (Int))) × ((Int) × ((Int) × (Unit)))) × (Unit)) := fnE E0 k 28 (a0, ())

noncomputable def F51 (k : Nat) (a0 : Int) : Option (((List (Int)) × (Unit)) × (Unit)) := fnE E0 k 51 (a0, ())

noncomputable def F52 (k : Nat) (a0 : List (Int)) : Option (((Int) × (Unit)) × (Unit)) := fnE E0 k 52 (a0, ())

noncomputable def F30 (k : Nat) (a0 : List (Int)) : Option (((Int) × (Unit)) × (Unit)) := fnE E0 k 30 (a0, ())

noncomputable def F26 (k : Nat) (a0 : List (Int)) : Option (((List (Int)) × ((Bool) × (Unit))) × (Unit)) := fnE E0 k 26 (a0, ())

noncomputable def F27 (k : Nat) (a0 : List (Int)) (a1 : Int) : Option (((List (Int)) × ((Int) × ((Int) × (Unit)))) × (Unit)) := fnE E0 k 27 (a0, a1, ())

noncomputable def F29 (k : Nat) (a0 : List (Int)) : Option (((List (List (Int))) × ((Int) × ((Int) × (Unit)))) × (Unit)) := fnE E0 k 29 (a0, ())

noncomputable def F31 (k : Nat) (a0 : List (List (Int))) (a1 : List (List (Int))) : Option (((Bool) × (Unit)) × (Unit)) := fnE E0 k 31 (a0, a1, ())

noncomputable def F32 (k : Nat) (a0 : List (List (Int))) (a1 : Int) : Option (((Int) × (Unit)) × (Unit)) := fnE E0 k 32 (a0, a1, ())

noncomputable def F14 (k : Nat)  : Option (((Bool) × (Unit)) × (Unit)) := fnE E0 k 14 ()

theorem F43_step (k : Nat) (a0 : Int) : F43 (k + 1) a0 =
  (some ((((IntKind.wrap (IntKind.u8) a0) :: ((IntKind.wrap (IntKind.u8) (Int.fdiv a0 (256 : Int))) :: ((IntKind.wrap (IntKind.u8) (Int.fdiv a0 (65536 : Int))) :: ((IntKind.wrap (IntKind.u8) (Int.fdiv a0 (16777216 : Int))) :: ([] : List (Int)))))), ()), ())) := by kernel_rfl

theorem F44_step (k : Nat) (a0 : List (Int)) : F44 (k + 1) a0 =
  (br (inB (0 : Int) (List.length a0))
   (br (inB (1 : Int) (List.length a0))
    (br (inB (2 : Int) (List.length a0))
     (br (inB (3 : Int) (List.length a0))
      (some (((IntKind.wrap (IntKind.i64) (((BitVec.toNat ((BitVec.ofInt (64 : Nat) (IntKind.wrap (IntKind.i64) (((BitVec.toNat ((BitVec.ofInt (64 : Nat) (IntKind.wrap (IntKind.i64) (((BitVec.toNat ((BitVec.ofInt (64 : Nat) (IntKind.wrap (IntKind.i64) (List.getD a0 (0 : Nat) (0 : Int)))) ||| (BitVec.ofInt (64 : Nat) (IntKind.wrap (IntKind.i64) ((IntKind.wrap (IntKind.i64) (List.getD a0 (1 : Nat) (0 : Int))) * (256 : Int)))))) : Nat) : Int))) ||| (BitVec.ofInt (64 : Nat) (IntKind.wrap (IntKind.i64) ((IntKind.wrap (IntKind.i64) (List.getD a0 (2 : Nat) (0 : Int))) * (65536 : Int)))))) : Nat) : Int))) ||| (BitVec.ofInt (64 : Nat) (IntKind.wrap (IntKind.i64) ((IntKind.wrap (IntKind.i64) (List.getD a0 (3 : Nat) (0 : Int))) * (16777216 : Int)))))) : Nat) : Int)), ()), ()))
      none)
     none)
    none)
   none) := by kernel_rfl

noncomputable def L46_0 (k : Nat) (s0 : Unit) : Nat → (List (Int)) × ((Int) × (Unit)) → Option (LO ((List (Int)) × (Unit)) ((List (Int)) × ((Int) × (Unit))) ((List (Int)) × (Unit))) :=
  loopF true 0 24 cut46_0 (s0, ()) (fun σ K => ev E0 (fnE E0 k) 46 (rvOf 46) k (codeOf 46 0) _ σ K)

noncomputable def L46_2 (k : Nat)  : Nat → (Int) × ((Int) × (Unit)) → Option (LO ((List (Int)) × (Unit)) ((Int) × ((Int) × (Unit))) (Unit)) :=
  loopF true 2 24 cut46_2 () (fun σ K => ev E0 (fnE E0 k) 46 (rvOf 46) k (codeOf 46 2) _ σ K)

theorem L46_0_step (k m : Nat) (s0 : Unit) (x0 : List (Int)) (x1 : Int) : L46_0 k s0 (m + 1) (x0, x1, ()) =
  (br (decide (x1 < (16 : Int)))
   (bdL (L46_2 k  k ((IntKind.wrap (IntKind.u32) x1), ((0 : Int), ())))
    (fun (b : (Int) × ((Int) × (Unit))) => (br (inB x1 (16 : Nat))
     (L46_0 k s0 m ((List.set x0 (Int.toNat x1) b.1), ((IntKind.wrap (IntKind.i64) (x1 + (1 : Int))), ())))
     none))
    (fun (j : Nat) => (fun (b : (Int) × ((Int) × (Unit))) => (br (Nat.beq j (1 : Nat))
     (L46_0 k s0 m (x0, ((IntKind.wrap (IntKind.i64) (x1 + (1 : Int))), ())))
     (br (Nat.beq j (0 : Nat))
      (some (.brk (x0, (x1, ()))))
      (some (.ext j (x0, (x1, ()))))))))
    (fun (q : (List (Int)) × (Unit)) => (fun (b : Unit) => (some (.ret q (x0, ()))))))
   (some (.brk (x0, (x1, ()))))) := by kernel_rfl

theorem L46_2_step (k m : Nat)  (x0 : Int) (x1 : Int) : L46_2 k  (m + 1) (x0, x1, ()) =
  (br (decide (x1 < (4 : Int)))
   (L46_2 k  m ((IntKind.wrap (IntKind.u32) (((BitVec.toNat ((BitVec.ofInt (32 : Nat) (Int.fdiv x0 (2 : Int))) ^^^ (BitVec.ofInt (32 : Nat) (IntKind.wrap (IntKind.u32) (((BitVec.toNat ((BitVec.ofInt (32 : Nat) (3988292384 : Int)) &&& (BitVec.ofInt (32 : Nat) (IntKind.wrap (IntKind.u32) ((0 : Int) - (IntKind.wrap (IntKind.u32) (((BitVec.toNat ((BitVec.ofInt (32 : Nat) x0) &&& (BitVec.ofInt (32 : Nat) (1 : Int)))) : Nat) : Int))))))) : Nat) : Int))))) : Nat) : Int)), ((IntKind.wrap (IntKind.i64) (x1 + (1 : Int))), ())))
   (some (.brk (x0, (x1, ()))))) := by kernel_rfl

theorem F46_step (k : Nat)  : F46 (k + 1)  =
  (bdL (L46_0 k () k ((List.replicate 16 (0 : Int)), ((0 : Int), ())))
   (fun (b : (List (Int)) × ((Int) × (Unit))) => (some ((b.1, ()), ())))
   (fun (j : Nat) => (fun (b : (List (Int)) × ((Int) × (Unit))) => none))
   (fun (q : (List (Int)) × (Unit)) => (fun (b : (List (Int)) × (Unit)) => (some (q, ()))))) := by kernel_rfl

noncomputable def L17_0 (k : Nat) (s0 : Unit) (s1 : List (Int)) (s2 : Int) : Nat → (List (Int)) × ((Int) × ((Int) × (Unit))) → Option (LO ((Int) × (Unit)) ((List (Int)) × ((Int) × ((Int) × (Unit)))) ((List (Int)) × (Unit))) :=
  loopF true 0 36 cut17_0 (s0, s1, s2, ()) (fun σ K => ev E0 (fnE E0 k) 17 (rvOf 17) k (codeOf 17 0) _ σ K)

theorem L17_0_step (k m : Nat) (s0 : Unit) (s1 : List (Int)) (s2 : Int) (x0 : List (Int)) (x1 : Int) (x2 : Int) : L17_0 k s0 s1 s2 (m + 1) (x0, x1, x2, ()) =
  (br (decide (x2 < s2))
   (br (inB x2 (List.length s1))
    (br (inB (IntKind.wrap (IntKind.u32) (((BitVec.toNat ((BitVec.ofInt (32 : Nat) (IntKind.wrap (IntKind.u32) (((BitVec.toNat ((BitVec.ofInt (32 : Nat) x1) ^^^ (BitVec.ofInt (32 : Nat) (IntKind.wrap (IntKind.u32) (List.getD s1 (Int.toNat x2) (0 : Int)))))) : Nat) : Int))) &&& (BitVec.ofInt (32 : Nat) (15 : Int)))) : Nat) : Int)) (16 : Nat))
     (br (inB (IntKind.wrap (IntKind.u32) (((BitVec.toNat ((BitVec.ofInt (32 : Nat) (IntKind.wrap (IntKind.u32) (((BitVec.toNat ((BitVec.ofInt (32 : Nat) (Int.fdiv (IntKind.wrap (IntKind.u32) (((BitVec.toNat ((BitVec.ofInt (32 : Nat) x1) ^^^ (BitVec.ofInt (32 : Nat) (IntKind.wrap (IntKind.u32) (List.getD s1 (Int.toNat x2) (0 : Int)))))) : Nat) : Int)) (16 : Int))) ^^^ (BitVec.ofInt (32 : Nat) (List.getD x0 (Int.toNat (IntKind.wrap (IntKind.u32) (((BitVec.toNat ((BitVec.ofInt (32 : Nat) (IntKind.wrap (IntKind.u32) (((BitVec.toNat ((BitVec.ofInt (32 : Nat) x1) ^^^ (BitVec.ofInt (32 : Nat) (IntKind.wrap (IntKind.u32) (List.getD s1 (Int.toNat x2) (0 : Int)))))) : Nat) : Int))) &&& (BitVec.ofInt (32 : Nat) (15 : Int)))) : Nat) : Int))) (0 : Int))))) : Nat) : Int))) &&& (BitVec.ofInt (32 : Nat) (15 : Int)))) : Nat) : Int)) (16 : Nat))
      (L17_0 k s0 s1 s2 m (x0, ((IntKind.wrap (IntKind.u32) (((BitVec.toNat ((BitVec.ofInt (32 : Nat) (Int.fdiv (IntKind.wrap (IntKind.u32) (((BitVec.toNat ((BitVec.ofInt (32 : Nat) (Int.fdiv (IntKind.wrap (IntKind.u32) (((BitVec.toNat ((BitVec.ofInt (32 : Nat) x1) ^^^ (BitVec.ofInt (32 : Nat) (IntKind.wrap (IntKind.u32) (List.getD s1 (Int.toNat x2) (0 : Int)))))) : Nat) : Int)) (16 : Int))) ^^^ (BitVec.ofInt (32 : Nat) (List.getD x0 (Int.toNat (IntKind.wrap (IntKind.u32) (((BitVec.toNat ((BitVec.ofInt (32 : Nat) (IntKind.wrap (IntKind.u32) (((BitVec.toNat ((BitVec.ofInt (32 : Nat) x1) ^^^ (BitVec.ofInt (32 : Nat) (IntKind.wrap (IntKind.u32) (List.getD s1 (Int.toNat x2) (0 : Int)))))) : Nat) : Int))) &&& (BitVec.ofInt (32 : Nat) (15 : Int)))) : Nat) : Int))) (0 : Int))))) : Nat) : Int)) (16 : Int))) ^^^ (BitVec.ofInt (32 : Nat) (List.getD x0 (Int.toNat (IntKind.wrap (IntKind.u32) (((BitVec.toNat ((BitVec.ofInt (32 : Nat) (IntKind.wrap (IntKind.u32) (((BitVec.toNat ((BitVec.ofInt (32 : Nat) (Int.fdiv (IntKind.wrap (IntKind.u32) (((BitVec.toNat ((BitVec.ofInt (32 : Nat) x1) ^^^ (BitVec.ofInt (32 : Nat) (IntKind.wrap (IntKind.u32) (List.getD s1 (Int.toNat x2) (0 : Int)))))) : Nat) : Int)) (16 : Int))) ^^^ (BitVec.ofInt (32 : Nat) (List.getD x0 (Int.toNat (IntKind.wrap (IntKind.u32) (((BitVec.toNat ((BitVec.ofInt (32 : Nat) (IntKind.wrap (IntKind.u32) (((BitVec.toNat ((BitVec.ofInt (32 : Nat) x1) ^^^ (BitVec.ofInt (32 : Nat) (IntKind.wrap (IntKind.u32) (List.getD s1 (Int.toNat x2) (0 : Int)))))) : Nat) : Int))) &&& (BitVec.ofInt (32 : Nat) (15 : Int)))) : Nat) : Int))) (0 : Int))))) : Nat) : Int))) &&& (BitVec.ofInt (32 : Nat) (15 : Int)))) : Nat) : Int))) (0 : Int))))) : Nat) : Int)), ((IntKind.wrap (IntKind.i64) (x2 + (1 : Int))), ()))))
      none)
     none)
    none)
   (some (.brk (x0, (x1, (x2, ())))))) := by kernel_rfl

theorem F17_step (k : Nat) (a0 : List (Int)) : F17 (k + 1) a0 =
  (bd (F46 k ) (fun (r : ((List (Int)) × (Unit)) × (Unit)) => (bdL (L17_0 k () a0 (((List.length a0) : Nat) : Int) k (r.1.1, ((4294967295 : Int), ((0 : Int), ()))))
    (fun (b : (List (Int)) × ((Int) × ((Int) × (Unit)))) => (some (((IntKind.wrap (IntKind.i64) (IntKind.wrap (IntKind.u32) (((BitVec.toNat ((BitVec.ofInt (32 : Nat) (4294967295 : Int)) ^^^ (BitVec.ofInt (32 : Nat) b.2.1))) : Nat) : Int))), ()), ())))
    (fun (j : Nat) => (fun (b : (List (Int)) × ((Int) × ((Int) × (Unit)))) => none))
    (fun (q : (Int) × (Unit)) => (fun (b : (List (Int)) × (Unit)) => (some (q, ()))))))) := by kernel_rfl

noncomputable def L42_0 (k : Nat) (s0 : List (List (Int))) (s1 : Int) : Nat → (Int) × ((Int) × (Unit)) → Option (LO ((List (Int)) × (Unit)) ((Int) × ((Int) × (Unit))) (Unit)) :=
  loopF true 0 36 cut42_0 (s0, s1, ()) (fun σ K => ev E0 (fnE E0 k) 42 (rvOf 42) k (codeOf 42 0) _ σ K)

noncomputable def L42_2 (k : Nat) (s0 : List (List (Int))) (s1 : Int) : Nat → (List (Int)) × ((Int) × (Unit)) → Option (LO ((List (Int)) × (Unit)) ((List (Int)) × ((Int) × (Unit))) (Unit)) :=
  loopF true 2 36 cut42_2 (s0, s1, ()) (fun σ K => ev E0 (fnE E0 k) 42 (rvOf 42) k (codeOf 42 2) _ σ K)

theorem L42_0_step (k m : Nat) (s0 : List (List (Int))) (s1 : Int) (x0 : Int) (x1 : Int) : L42_0 k s0 s1 (m + 1) (x0, x1, ()) =
  (br (decide (x1 < s1))
   (br (inB x1 (List.length s0))
    (br (decide ((IntKind.wrap (IntKind.i64) (x0 + (((List.length (List.getD s0 (Int.toNat x1) ([] : List (Int)))) : Nat) : Int))) < (0 : Int)))
     none
     (L42_0 k s0 s1 m ((IntKind.wrap (IntKind.i64) (x0 + (((List.length (List.getD s0 (Int.toNat x1) ([] : List (Int)))) : Nat) : Int))), ((IntKind.wrap (IntKind.i64) (x1 + (1 : Int))), ()))))
    none)
   (some (.brk (x0, (x1, ()))))) := by kernel_rfl

theorem L42_2_step (k m : Nat) (s0 : List (List (Int))) (s1 : Int) (x0 : List (Int)) (x1 : Int) : L42_2 k s0 s1 (m + 1) (x0, x1, ()) =
  (br (decide (x1 < s1))
   (br (inB x1 (List.length s0))
    (br (decide ((((List.length x0) + (List.length (List.getD s0 (Int.toNat x1) ([] : List (Int))))) * (1 : Nat)) ≤ (140737488355328 : Nat)))
     (L42_2 k s0 s1 m ((x0 ++ (List.getD s0 (Int.toNat x1) ([] : List (Int)))), ((IntKind.wrap (IntKind.i64) (x1 + (1 : Int))), ())))
     none)
    none)
   (some (.brk (x0, (x1, ()))))) := by kernel_rfl

theorem F42_step (k : Nat) (a0 : List (List (Int))) : F42 (k + 1) a0 =
  (bdL (L42_0 k a0 (((List.length a0) : Nat) : Int) k ((0 : Int), ((0 : Int), ())))
   (fun (b : (Int) × ((Int) × (Unit))) => (br (makeB b.1 b.1 (1 : Nat))
    (bdL (L42_2 k a0 (((List.length a0) : Nat) : Int) k (([] : List (Int)), ((0 : Int), ())))
     (fun (b1 : (List (Int)) × ((Int) × (Unit))) => (some ((b1.1, ()), ())))
     (fun (j : Nat) => (fun (b1 : (List (Int)) × ((Int) × (Unit))) => none))
     (fun (q : (List (Int)) × (Unit)) => (fun (b1 : Unit) => (some (q, ())))))
    none))
   (fun (j : Nat) => (fun (b : (Int) × ((Int) × (Unit))) => none))
   (fun (q : (List (Int)) × (Unit)) => (fun (b : Unit) => (some (q, ()))))) := by kernel_rfl

theorem F15_step (k : Nat) (a0 : List (Int)) : F15 (k + 1) a0 =
  (br (decide ((((List.length a0) : Nat) : Int) > (65536 : Int)))
   (some ((([] : List (Int)), (false, ())), ()))
   (bd (F43 k (((List.length a0) : Nat) : Int)) (fun (r : ((List (Int)) × (Unit)) × (Unit)) => (bd (F17 k a0) (fun (r1 : ((Int) × (Unit)) × (Unit)) => (bd (F43 k r1.1.1) (fun (r2 : ((List (Int)) × (Unit)) × (Unit)) => (bd (F42 k (r.1.1 :: (r2.1.1 :: (a0 :: ([] : List (List (Int))))))) (fun (r3 : ((List (Int)) × (Unit)) × (Unit)) => (some ((r3.1.1, (true, ())), ()))))))))))) := by kernel_rfl

theorem F16_step (k : Nat) (a0 : List (Int)) (a1 : Int) : F16 (k + 1) a0 a1 =
  (br (cond (decide (a1 < (0 : Int))) true (decide (a1 > (((List.length a0) : Nat) : Int))))
   (some ((([] : List (Int)), ((0 : Int), ((2 : Int), ()))), ()))
   (br (true && (leB a1 (List.length a0)))
    (br (decide ((((List.length (List.drop (Int.toNat a1) a0)) : Nat) : Int) < (8 : Int)))
     (some ((([] : List (Int)), (a1, ((1 : Int), ()))), ()))
     (bd (F44 k (List.drop (Int.toNat a1) a0)) (fun (r : ((Int) × (Unit)) × (Unit)) => (br (true && (leB (4 : Int) (List.length (List.drop (Int.toNat a1) a0))))
       (bd (F44 k (List.drop (4 : Nat) (List.drop (Int.toNat a1) a0))) (fun (r1 : ((Int) × (Unit)) × (Unit)) => (br (true && (leB (8 : Int) (List.length (List.drop (Int.toNat a1) a0))))
         (br (decide (r.1.1 > (65536 : Int)))
          (some ((([] : List (Int)), (a1, ((2 : Int), ()))), ()))
          (br (decide (r.1.1 > (((List.length (List.drop (8 : Nat) (List.drop (Int.toNat a1) a0))) : Nat) : Int)))
           (some ((([] : List (Int)), (a1, ((1 : Int), ()))), ()))
           (br ((true && (leB r.1.1 (List.length (List.drop (8 : Nat) (List.drop (Int.toNat a1) a0))))) && true)
            (bd (F17 k (List.take (Int.toNat r.1.1) (List.drop (8 : Nat) (List.drop (Int.toNat a1) a0)))) (fun (r2 : ((Int) × (Unit)) × (Unit)) => (br (r2.1.1 != r1.1.1)
              (some ((([] : List (Int)), (a1, ((2 : Int), ()))), ()))
              (br ((true && (leB r.1.1 (List.length (List.drop (8 : Nat) (List.drop (Int.toNat a1) a0))))) && true)
               (bd (F45 k (List.take (Int.toNat r.1.1) (List.drop (8 : Nat) (List.drop (Int.toNat a1) a0)))) (fun (r3 : ((List (Int)) × (Unit)) × (Unit)) => (some ((r3.1.1, ((IntKind.wrap (IntKind.i64) ((IntKind.wrap (IntKind.i64) (a1 + (8 : Int))) + r.1.1)), ((0 : Int), ()))), ()))))
               none))))
            none)))
         none)))
       none))))
    none)) := by kernel_rfl

noncomputable def L28_0 (k : Nat) (s0 : List (Int)) : Nat → (List (List (Int))) × ((Int) × ((Int) × ((List (List (Int))) × ((Int) × (Unit))))) → Option (LO ((List (List (Int))) × ((Int) × ((Int) × (Unit)))) ((List (List (Int))) × ((Int) × ((Int) × ((List (List (Int))) × ((Int) × (Unit)))))) (Unit)) :=
  loopF true 0 33 cut28_0 (s0, ()) (fun σ K => ev E0 (fnE E0 k) 28 (rvOf 28) k (codeOf 28 0) _ σ K)

theorem L28_0_step (k m : Nat) (s0 : List (Int)) (x0 : List (List (Int))) (x1 : Int) (x2 : Int) (x3 : List (List (Int))) (x4 : Int) : L28_0 k s0 (m + 1) (x0, x1, x2, x3, x4, ()) =
  (br (decide (x4 < (((List.length s0) : Nat) : Int)))
   (bd (F16 k s0 x4) (fun (r : ((List (Int)) × ((Int) × ((Int) × (Unit)))) × (Unit)) => (br (r.1.2.2.1 != (0 : Int))
     (some (.ret (x3, (x4, (r.1.2.2.1, ()))) ()))
     (br (decide ((((List.length x3) + (List.length (r.1.1 :: ([] : List (List (Int)))))) * (24 : Nat)) ≤ (140737488355328 : Nat)))
      (L28_0 k s0 m (x0, (x1, (x2, ((x3 ++ (r.1.1 :: ([] : List (List (Int))))), (r.1.2.1, ()))))))
      none))))
   (some (.brk (x0, (x1, (x2, (x3, (x4, ())))))))) := by kernel_rfl

theorem F28_step (k : Nat) (a0 : List (Int)) : F28 (k + 1) a0 =
  (bdL (L28_0 k a0 k (([] : List (List (Int))), ((0 : Int), ((0 : Int), (([] : List (List (Int))), ((0 : Int), ()))))))
   (fun (b : (List (List (Int))) × ((Int) × ((Int) × ((List (List (Int))) × ((Int) × (Unit)))))) => (some ((b.2.2.2.1, (b.2.2.2.2.1, ((0 : Int), ()))), ())))
   (fun (j : Nat) => (fun (b : (List (List (Int))) × ((Int) × ((Int) × ((List (List (Int))) × ((Int) × (Unit)))))) => none))
   (fun (q : (List (List (Int))) × ((Int) × ((Int) × (Unit)))) => (fun (b : Unit) => (some (q, ()))))) := by kernel_rfl

theorem F51_step (k : Nat) (a0 : Int) : F51 (k + 1) a0 =
  (some ((((IntKind.wrap (IntKind.u8) (Int.tmod a0 (256 : Int))) :: ((IntKind.wrap (IntKind.u8) (Int.tmod (IntKind.wrap (IntKind.i64) (Int.tdiv a0 (256 : Int))) (256 : Int))) :: ((IntKind.wrap (IntKind.u8) (Int.tmod (IntKind.wrap (IntKind.i64) (Int.tdiv a0 (65536 : Int))) (256 : Int))) :: ((IntKind.wrap (IntKind.u8) (Int.tmod (IntKind.wrap (IntKind.i64) (Int.tdiv a0 (16777216 : Int))) (256 : Int))) :: ([] : List (Int)))))), ()), ())) := by kernel_rfl

theorem F52_step (k : Nat) (a0 : List (Int)) : F52 (k + 1) a0 =
  (br (inB (0 : Int) (List.length a0))
   (br (inB (1 : Int) (List.length a0))
    (br (inB (2 : Int) (List.length a0))
     (br (inB (3 : Int) (List.length a0))
      (some (((IntKind.wrap (IntKind.i64) ((IntKind.wrap (IntKind.i64) ((IntKind.wrap (IntKind.i64) ((IntKind.wrap (IntKind.i64) (List.getD a0 (0 : Nat) (0 : Int))) + (IntKind.wrap (IntKind.i64) ((256 : Int) * (IntKind.wrap (IntKind.i64) (List.getD a0 (1 : Nat) (0 : Int))))))) + (IntKind.wrap (IntKind.i64) ((65536 : Int) * (IntKind.wrap (IntKind.i64) (List.getD a0 (2 : Nat) (0 : Int))))))) + (IntKind.wrap (IntKind.i64) ((16777216 : Int) * (IntKind.wrap (IntKind.i64) (List.getD a0 (3 : Nat) (0 : Int))))))), ()), ()))
      none)
     none)
    none)
   none) := by kernel_rfl

noncomputable def L30_0 (k : Nat) (s0 : List (Int)) : Nat → (Int) × ((Int) × (Unit)) → Option (LO ((Int) × (Unit)) ((Int) × ((Int) × (Unit))) (Unit)) :=
  loopF true 0 34 cut30_0 (s0, ()) (fun σ K => ev E0 (fnE E0 k) 30 (rvOf 30) k (codeOf 30 0) _ σ K)

noncomputable def L30_2 (k : Nat)  : Nat → (Int) × ((Int) × (Unit)) → Option (LO ((Int) × (Unit)) ((Int) × ((Int) × (Unit))) (Unit)) :=
  loopF true 2 34 cut30_2 () (fun σ K => ev E0 (fnE E0 k) 30 (rvOf 30) k (codeOf 30 2) _ σ K)

theorem L30_0_step (k m : Nat) (s0 : List (Int)) (x0 : Int) (x1 : Int) : L30_0 k s0 (m + 1) (x0, x1, ()) =
  (br (decide (x1 < (((List.length s0) : Nat) : Int)))
   (br (inB x1 (List.length s0))
    (bdL (L30_2 k  k ((IntKind.wrap (IntKind.i64) (((BitVec.toNat ((BitVec.ofInt (64 : Nat) x0) ^^^ (BitVec.ofInt (64 : Nat) (IntKind.wrap (IntKind.i64) (List.getD s0 (Int.toNat x1) (0 : Int)))))) : Nat) : Int)), ((0 : Int), ())))
     (fun (b : (Int) × ((Int) × (Unit))) => (L30_0 k s0 m (b.1, ((IntKind.wrap (IntKind.i64) (x1 + (1 : Int))), ()))))
     (fun (j : Nat) => (fun (b : (Int) × ((Int) × (Unit))) => (br (Nat.beq j (1 : Nat))
      (L30_0 k s0 m (b.1, ((IntKind.wrap (IntKind.i64) (x1 + (1 : Int))), ())))
      (br (Nat.beq j (0 : Nat))
       (some (.brk (b.1, (x1, ()))))
       (some (.ext j (b.1, (x1, ()))))))))
     (fun (q : (Int) × (Unit)) => (fun (b : Unit) => (some (.ret q ())))))
    none)
   (some (.brk (x0, (x1, ()))))) := by kernel_rfl

theorem L30_2_step (k m : Nat)  (x0 : Int) (x1 : Int) : L30_2 k  (m + 1) (x0, x1, ()) =
  (br (decide (x1 < (8 : Int)))
   (br ((Int.tmod x0 (2 : Int)) == (1 : Int))
    (L30_2 k  m ((IntKind.wrap (IntKind.i64) (((BitVec.toNat ((BitVec.ofInt (64 : Nat) (IntKind.wrap (IntKind.i64) (Int.tdiv x0 (2 : Int)))) ^^^ (BitVec.ofInt (64 : Nat) (3988292384 : Int)))) : Nat) : Int)), ((IntKind.wrap (IntKind.i64) (x1 + (1 : Int))), ())))
    (L30_2 k  m ((IntKind.wrap (IntKind.i64) (Int.tdiv x0 (2 : Int))), ((IntKind.wrap (IntKind.i64) (x1 + (1 : Int))), ()))))
   (some (.brk (x0, (x1, ()))))) := by kernel_rfl

theorem F30_step (k : Nat) (a0 : List (Int)) : F30 (k + 1) a0 =
  (bdL (L30_0 k a0 k ((4294967295 : Int), ((0 : Int), ())))
   (fun (b : (Int) × ((Int) × (Unit))) => (some (((IntKind.wrap (IntKind.i64) (((BitVec.toNat ((BitVec.ofInt (64 : Nat) b.1) ^^^ (BitVec.ofInt (64 : Nat) (4294967295 : Int)))) : Nat) : Int)), ()), ())))
   (fun (j : Nat) => (fun (b : (Int) × ((Int) × (Unit))) => none))
   (fun (q : (Int) × (Unit)) => (fun (b : Unit) => (some (q, ()))))) := by kernel_rfl

theorem F26_step (k : Nat) (a0 : List (Int)) : F26 (k + 1) a0 =
  (br (decide ((((List.length a0) : Nat) : Int) > (65536 : Int)))
   (some ((([] : List (Int)), (false, ())), ()))
   (bd (F51 k (((List.length a0) : Nat) : Int)) (fun (r : ((List (Int)) × (Unit)) × (Unit)) => (bd (F30 k a0) (fun (r1 : ((Int) × (Unit)) × (Unit)) => (bd (F51 k r1.1.1) (fun (r2 : ((List (Int)) × (Unit)) × (Unit)) => (br (decide ((((List.length r.1.1) + (List.length r2.1.1)) * (1 : Nat)) ≤ (140737488355328 : Nat)))
       (br (decide ((((List.length (r.1.1 ++ r2.1.1)) + (List.length a0)) * (1 : Nat)) ≤ (140737488355328 : Nat)))
        (some ((((r.1.1 ++ r2.1.1) ++ a0), (true, ())), ()))
        none)
       none)))))))) := by kernel_rfl

theorem F27_step (k : Nat) (a0 : List (Int)) (a1 : Int) : F27 (k + 1) a0 a1 =
  (br (cond (decide (a1 < (0 : Int))) true (decide (a1 > (((List.length a0) : Nat) : Int))))
   (some ((([] : List (Int)), ((0 : Int), ((2 : Int), ()))), ()))
   (br (true && (leB a1 (List.length a0)))
    (br (decide ((((List.length (List.drop (Int.toNat a1) a0)) : Nat) : Int) < (8 : Int)))
     (some ((([] : List (Int)), (a1, ((1 : Int), ()))), ()))
     (bd (F52 k (List.drop (Int.toNat a1) a0)) (fun (r : ((Int) × (Unit)) × (Unit)) => (br (decide (r.1.1 > (65536 : Int)))
       (some ((([] : List (Int)), (a1, ((2 : Int), ()))), ()))
       (br (decide ((IntKind.wrap (IntKind.i64) ((((List.length (List.drop (Int.toNat a1) a0)) : Nat) : Int) - (8 : Int))) < r.1.1))
        (some ((([] : List (Int)), (a1, ((1 : Int), ()))), ()))
        (br ((true && (leB (IntKind.wrap (IntKind.i64) ((8 : Int) + r.1.1)) (List.length (List.drop (Int.toNat a1) a0)))) && (leB (8 : Int) (Int.toNat (IntKind.wrap (IntKind.i64) ((8 : Int) + r.1.1)))))
         (br (decide ((((0 : Nat) + (List.length (List.drop (8 : Nat) (List.take (Int.toNat (IntKind.wrap (IntKind.i64) ((8 : Int) + r.1.1))) (List.drop (Int.toNat a1) a0))))) * (1 : Nat)) ≤ (140737488355328 : Nat)))
          (bd (F30 k (([] : List (Int)) ++ (List.drop (8 : Nat) (List.take (Int.toNat (IntKind.wrap (IntKind.i64) ((8 : Int) + r.1.1))) (List.drop (Int.toNat a1) a0))))) (fun (r1 : ((Int) × (Unit)) × (Unit)) => (br (true && (leB (4 : Int) (List.length (List.drop (Int.toNat a1) a0))))
            (bd (F52 k (List.drop (4 : Nat) (List.drop (Int.toNat a1) a0))) (fun (r2 : ((Int) × (Unit)) × (Unit)) => (br (r1.1.1 != r2.1.1)
              (some ((([] : List (Int)), (a1, ((2 : Int), ()))), ()))
              (some (((([] : List (Int)) ++ (List.drop (8 : Nat) (List.take (Int.toNat (IntKind.wrap (IntKind.i64) ((8 : Int) + r.1.1))) (List.drop (Int.toNat a1) a0)))), ((IntKind.wrap (IntKind.i64) ((IntKind.wrap (IntKind.i64) (a1 + (8 : Int))) + r.1.1)), ((0 : Int), ()))), ())))))
            none)))
          none)
         none))))))
    none)) := by kernel_rfl

noncomputable def L29_0 (k : Nat) (s0 : List (Int)) : Nat → (List (List (Int))) × ((Int) × ((Int) × ((List (List (Int))) × ((Int) × (Unit))))) → Option (LO ((List (List (Int))) × ((Int) × ((Int) × (Unit)))) ((List (List (Int))) × ((Int) × ((Int) × ((List (List (Int))) × ((Int) × (Unit)))))) (Unit)) :=
  loopF true 0 34 cut29_0 (s0, ()) (fun σ K => ev E0 (fnE E0 k) 29 (rvOf 29) k (codeOf 29 0) _ σ K)

theorem L29_0_step (k m : Nat) (s0 : List (Int)) (x0 : List (List (Int))) (x1 : Int) (x2 : Int) (x3 : List (List (Int))) (x4 : Int) : L29_0 k s0 (m + 1) (x0, x1, x2, x3, x4, ()) =
  (br (decide (x4 < (((List.length s0) : Nat) : Int)))
   (bd (F27 k s0 x4) (fun (r : ((List (Int)) × ((Int) × ((Int) × (Unit)))) × (Unit)) => (br (r.1.2.2.1 != (0 : Int))
     (some (.ret (x3, (x4, (r.1.2.2.1, ()))) ()))
     (br (decide ((((List.length x3) + (List.length (r.1.1 :: ([] : List (List (Int)))))) * (24 : Nat)) ≤ (140737488355328 : Nat)))
      (L29_0 k s0 m (x0, (x1, (x2, ((x3 ++ (r.1.1 :: ([] : List (List (Int))))), (r.1.2.1, ()))))))
      none))))
   (some (.brk (x0, (x1, (x2, (x3, (x4, ())))))))) := by kernel_rfl

theorem F29_step (k : Nat) (a0 : List (Int)) : F29 (k + 1) a0 =
  (bdL (L29_0 k a0 k (([] : List (List (Int))), ((0 : Int), ((0 : Int), (([] : List (List (Int))), ((0 : Int), ()))))))
   (fun (b : (List (List (Int))) × ((Int) × ((Int) × ((List (List (Int))) × ((Int) × (Unit)))))) => (some ((b.2.2.2.1, (b.2.2.2.2.1, ((0 : Int), ()))), ())))
   (fun (j : Nat) => (fun (b : (List (List (Int))) × ((Int) × ((Int) × ((List (List (Int))) × ((Int) × (Unit)))))) => none))
   (fun (q : (List (List (Int))) × ((Int) × ((Int) × (Unit)))) => (fun (b : Unit) => (some (q, ()))))) := by kernel_rfl

noncomputable def L31_0 (k : Nat) (s0 : List (List (Int))) (s1 : List (List (Int))) : Nat → (Bool) × ((Int) × (Unit)) → Option (LO ((Bool) × (Unit)) ((Bool) × ((Int) × (Unit))) (Unit)) :=
  loopF true 0 27 cut31_0 (s0, s1, ()) (fun σ K => ev E0 (fnE E0 k) 31 (rvOf 31) k (codeOf 31 0) _ σ K)

theorem L31_0_step (k m : Nat) (s0 : List (List (Int))) (s1 : List (List (Int))) (x0 : Bool) (x1 : Int) : L31_0 k s0 s1 (m + 1) (x0, x1, ()) =
  (br (decide (x1 < (((List.length s0) : Nat) : Int)))
   (br (inB x1 (List.length s0))
    (br (inB x1 (List.length s1))
     (bd (F20 k (List.getD s0 (Int.toNat x1) ([] : List (Int))) (List.getD s1 (Int.toNat x1) ([] : List (Int)))) (fun (r : ((Bool) × (Unit)) × (Unit)) => (br (!r.1.1)
       (some (.ret (false, ()) ()))
       (L31_0 k s0 s1 m (x0, ((IntKind.wrap (IntKind.i64) (x1 + (1 : Int))), ()))))))
     none)
    none)
   (some (.brk (x0, (x1, ()))))) := by kernel_rfl

theorem F31_step (k : Nat) (a0 : List (List (Int))) (a1 : List (List (Int))) : F31 (k + 1) a0 a1 =
  (br ((((List.length a0) : Nat) : Int) != (((List.length a1) : Nat) : Int))
   (some ((false, ()), ()))
   (bdL (L31_0 k a0 a1 k (false, ((0 : Int), ())))
    (fun (b : (Bool) × ((Int) × (Unit))) => (some ((true, ()), ())))
    (fun (j : Nat) => (fun (b : (Bool) × ((Int) × (Unit))) => none))
    (fun (q : (Bool) × (Unit)) => (fun (b : Unit) => (some (q, ())))))) := by kernel_rfl

noncomputable def L32_0 (k : Nat) (s0 : List (List (Int))) (s1 : Int) : Nat → (Int) × ((Int) × (Unit)) → Option (LO ((Int) × (Unit)) ((Int) × ((Int) × (Unit))) (Unit)) :=
  loopF true 0 33 cut32_0 (s0, s1, ()) (fun σ K => ev E0 (fnE E0 k) 32 (rvOf 32) k (codeOf 32 0) _ σ K)

theorem L32_0_step (k m : Nat) (s0 : List (List (Int))) (s1 : Int) (x0 : Int) (x1 : Int) : L32_0 k s0 s1 (m + 1) (x0, x1, ()) =
  (br (cond (decide (x1 < (((List.length s0) : Nat) : Int))) (decide (x0 ≤ s1)) false)
   (br (inB x1 (List.length s0))
    (L32_0 k s0 s1 m ((IntKind.wrap (IntKind.i64) (x0 + (IntKind.wrap (IntKind.i64) ((1 : Int) + (((List.length (List.getD s0 (Int.toNat x1) ([] : List (Int)))) : Nat) : Int))))), ((IntKind.wrap (IntKind.i64) (x1 + (1 : Int))), ())))
    none)
   (some (.brk (x0, (x1, ()))))) := by kernel_rfl

theorem F32_step (k : Nat) (a0 : List (List (Int))) (a1 : Int) : F32 (k + 1) a0 a1 =
  (br (decide ((((List.length a0) : Nat) : Int) > a1))
   (some (((IntKind.wrap (IntKind.i64) (a1 + (1 : Int))), ()), ()))
   (bdL (L32_0 k a0 a1 k ((0 : Int), ((0 : Int), ())))
    (fun (b : (Int) × ((Int) × (Unit))) => (some ((b.1, ()), ())))
    (fun (j : Nat) => (fun (b : (Int) × ((Int) × (Unit))) => none))
    (fun (q : (Int) × (Unit)) => (fun (b : Unit) => (some (q, ())))))) := by kernel_rfl

theorem F14_step (k : Nat)  : F14 (k + 1)  =
  (bd (F15 k ([] : List (Int))) (fun (r : ((List (Int)) × ((Bool) × (Unit))) × (Unit)) => (bd (F15 k ((97 : Int) :: ((98 : Int) :: ([] : List (Int))))) (fun (r1 : ((List (Int)) × ((Bool) × (Unit))) × (Unit)) => (bd (F16 k r1.1.1 (0 : Int)) (fun (r2 : ((List (Int)) × ((Int) × ((Int) × (Unit)))) × (Unit)) => (br (cond r.1.2.1 r1.1.2.1 false)
      (bd (F17 k ((49 : Int) :: ((50 : Int) :: ((51 : Int) :: ((52 : Int) :: ((53 : Int) :: ((54 : Int) :: ((55 : Int) :: ((56 : Int) :: ((57 : Int) :: ([] : List (Int)))))))))))) (fun (r3 : ((Int) × (Unit)) × (Unit)) => (br (cond (cond true (r3.1.1 == (3421780262 : Int)) false) ((((List.length r.1.1) : Nat) : Int) == (8 : Int)) false)
        (some (((cond (cond (cond true ((List.map (fun (n : Int) => (UInt8.ofNat (Int.toNat n))) r2.1.1) == ([97, 98] : List UInt8)) false) (r2.1.2.1 == (10 : Int)) false) (r2.1.2.2.1 == (0 : Int)) false), ()), ()))
        (some (((cond (cond false (r2.1.2.1 == (10 : Int)) false) (r2.1.2.2.1 == (0 : Int)) false), ()), ())))))
      (some (((cond (cond false (r2.1.2.1 == (10 : Int)) false) (r2.1.2.2.1 == (0 : Int)) false), ()), ()))))))))) := by kernel_rfl

end Go.Proofs.Ytnffdeokhcojfaa.E

namespace Go.Proofs.Ytnffdeokhcojfaa.E
open Go
set_option linter.unusedVariables false
set_option maxRecDepth 100000

noncomputable def F3 (k : Nat) (a0 : List (Int)) (a1 : Int) : Option (((Bool) × (Unit)) × (Unit)) := fnE E0 k 3 (a0, a1, ())

noncomputable def F4 (k : Nat) (a0 : List (Int)) (a1 : List (Int)) (a2 : List (Int)) : Option (((Bool) × (Unit)) × (Unit)) := fnE E0 k 4 (a0, a1, a2, ())

noncomputable def F7 (k : Nat) (a0 : List (Int)) (a1 : Int) : Option (((Bool) × (Unit)) × (Unit)) := fnE E0 k 7 (a0, a1, ())

noncomputable def F8 (k : Nat) (a0 : List (List (Int))) (a1 : Int) : Option (((Bool) × (Unit)) × (Unit)) := fnE E0 k 8 (a0, a1, ())

noncomputable def F9 (k : Nat) (a0 : List (List (Int))) (a1 : List (Int)) : Option (((Bool) × (Unit)) × (Unit)) := fnE E0 k 9 (a0, a1, ())

theorem F3_step (k : Nat) (a0 : List (Int)) (a1 : Int) : F3 (k + 1) a0 a1 =
  (bd (F14 k ) (fun (r : ((Bool) × (Unit)) × (Unit)) => (br (!r.1.1)
    (some ((false, ()), ()))
    (br (decide ((((List.length a0) : Nat) : Int) > (3000 : Int)))
     (some ((true, ()), ()))
     (bd (F15 k a0) (fun (r1 : ((List (Int)) × ((Bool) × (Unit))) × (Unit)) => (br (cond (!r1.1.2.1) true ((((List.length r1.1.1) : Nat) : Int) != (IntKind.wrap (IntKind.i64) ((8 : Int) + (((List.length a0) : Nat) : Int)))))
       (some ((false, ()), ()))
       (br (cond (decide (a1 < (32 : Int))) true (decide (a1 ≥ (IntKind.wrap (IntKind.i64) ((8 : Int) * (((List.length r1.1.1) : Nat) : Int))))))
        (some ((true, ()), ()))
        (br (inB (IntKind.wrap (IntKind.i64) (Int.tdiv a1 (8 : Int))) (List.length r1.1.1))
         (br (decide ((0 : Int) ≤ (IntKind.wrap (IntKind.u64) (Int.tmod a1 (8 : Int)))))
          (br (inB (IntKind.wrap (IntKind.i64) (Int.tdiv a1 (8 : Int))) (List.length r1.1.1))
           (bd (F16 k (List.set r1.1.1 (Int.toNat (IntKind.wrap (IntKind.i64) (Int.tdiv a1 (8 : Int)))) (IntKind.wrap (IntKind.u8) (((BitVec.toNat ((BitVec.ofInt (8 : Nat) (List.getD r1.1.1 (Int.toNat (IntKind.wrap (IntKind.i64) (Int.tdiv a1 (8 : Int)))) (0 : Int))) ^^^ (BitVec.ofInt (8 : Nat) (IntKind.wrap (IntKind.u8) ((1 : Int) * ((2 : Int) ^ (Min.min (Int.toNat (IntKind.wrap (IntKind.u64) (Int.tmod a1 (8 : Int)))) (8 : Nat)))))))) : Nat) : Int))) (0 : Int)) (fun (r2 : ((List (Int)) × ((Int) × ((Int) × (Unit)))) × (Unit)) => (some (((cond (cond ((((List.length r2.1.1) : Nat) : Int) == (0 : Int)) (r2.1.2.1 == (0 : Int)) false) (r2.1.2.2.1 == (2 : Int)) false), ()), ()))))
           none)
          none)
         none))))))))) := by kernel_rfl

noncomputable def L4_0 (k : Nat) (s0 : List (Int)) (s1 : List (Int)) (s2 : List (Int)) (s3 : Unit) : Nat → (List (Int)) × ((Int) × (Unit)) → Option (LO ((Bool) × (Unit)) ((List (Int)) × ((Int) × (Unit))) (Unit)) :=
  loopF true 0 65 cut4_0 (s0, s1, s2, s3, ()) (fun σ K => ev E0 (fnE E0 k) 4 (rvOf 4) k (codeOf 4 0) _ σ K)

theorem L4_0_step (k m : Nat) (s0 : List (Int)) (s1 : List (Int)) (s2 : List (Int)) (s3 : Unit) (x0 : List (Int)) (x1 : Int) : L4_0 k s0 s1 s2 s3 (m + 1) (x0, x1, ()) =
  (br (decide (x1 < (((List.length s0) : Nat) : Int)))
   (br (inB x1 (List.length s0))
    (br (inB x1 (List.length s1))
     (br (inB x1 (List.length s2))
      (br (inB x1 (List.length x0))
       (L4_0 k s0 s1 s2 s3 m ((List.set x0 (Int.toNat x1) (IntKind.wrap (IntKind.u8) (((BitVec.toNat ((BitVec.ofInt (8 : Nat) (IntKind.wrap (IntKind.u8) (((BitVec.toNat ((BitVec.ofInt (8 : Nat) (List.getD s0 (Int.toNat x1) (0 : Int))) ^^^ (BitVec.ofInt (8 : Nat) (List.getD s1 (Int.toNat x1) (0 : Int))))) : Nat) : Int))) ^^^ (BitVec.ofInt (8 : Nat) (List.getD s2 (Int.toNat x1) (0 : Int))))) : Nat) : Int))), ((IntKind.wrap (IntKind.i64) (x1 + (1 : Int))), ())))
       none)
      none)
     none)
    none)
   (some (.brk (x0, (x1, ()))))) := by kernel_rfl

theorem F4_step (k : Nat) (a0 : List (Int)) (a1 : List (Int)) (a2 : List (Int)) : F4 (k + 1) a0 a1 a2 =
  (bd (F14 k ) (fun (r : ((Bool) × (Unit)) × (Unit)) => (br (!r.1.1)
    (some ((false, ()), ()))
    (br (cond (cond (decide ((((List.length a0) : Nat) : Int) > (3000 : Int))) true ((((List.length a0) : Nat) : Int) != (((List.length a1) : Nat) : Int))) true ((((List.length a1) : Nat) : Int) != (((List.length a2) : Nat) : Int)))
     (some ((true, ()), ()))
     (br (makeB (((List.length a0) : Nat) : Int) (((List.length a0) : Nat) : Int) (1 : Nat))
      (bdL (L4_0 k a0 a1 a2 () k ((List.replicate (Int.toNat (((List.length a0) : Nat) : Int)) (0 : Int)), ((0 : Int), ())))
       (fun (b : (List (Int)) × ((Int) × (Unit))) => (bd (F17 k b.1) (fun (r1 : ((Int) × (Unit)) × (Unit)) => (bd (F17 k a0) (fun (r2 : ((Int) × (Unit)) × (Unit)) => (bd (F17 k a1) (fun (r3 : ((Int) × (Unit)) × (Unit)) => (bd (F17 k a2) (fun (r4 : ((Int) × (Unit)) × (Unit)) => (some (((r1.1.1 == (IntKind.wrap (IntKind.i64) (((BitVec.toNat ((BitVec.ofInt (64 : Nat) (IntKind.wrap (IntKind.i64) (((BitVec.toNat ((BitVec.ofInt (64 : Nat) r2.1.1) ^^^ (BitVec.ofInt (64 : Nat) r3.1.1))) : Nat) : Int))) ^^^ (BitVec.ofInt (64 : Nat) r4.1.1))) : Nat) : Int))), ()), ())))))))))))
       (fun (j : Nat) => (fun (b : (List (Int)) × ((Int) × (Unit))) => none))
       (fun (q : (Bool) × (Unit)) => (fun (b : Unit) => (some (q, ())))))
      none))))) := by kernel_rfl

theorem F7_step (k : Nat) (a0 : List (Int)) (a1 : Int) : F7 (k + 1) a0 a1 =
  (bd (F14 k ) (fun (r : ((Bool) × (Unit)) × (Unit)) => (br (!r.1.1)
    (some ((false, ()), ()))
    (br (cond (decide ((((List.length a0) : Nat) : Int) > (5000 : Int))) (decide ((((List.length a0) : Nat) : Int) ≤ (65536 : Int))) false)
     (some ((true, ()), ()))
     (br (decide ((((List.length a0) : Nat) : Int) > (65536 : Int)))
      (bd (F15 k a0) (fun (r1 : ((List (Int)) × ((Bool) × (Unit))) × (Unit)) => (some (((!r1.1.2.1), ()), ()))))
      (bd (F25 k a0) (fun (r1 : ((List (Int)) × (Unit)) × (Unit)) => (bd (F15 k r1.1.1) (fun (r2 : ((List (Int)) × ((Bool) × (Unit))) × (Unit)) => (bd (F26 k a0) (fun (r3 : ((List (Int)) × ((Bool) × (Unit))) × (Unit)) => (bd (F16 k r1.1.1 a1) (fun (r4 : ((List (Int)) × ((Int) × ((Int) × (Unit)))) × (Unit)) => (bd (F27 k a0 a1) (fun (r5 : ((List (Int)) × ((Int) × ((Int) × (Unit)))) × (Unit)) => (bd (F28 k r1.1.1) (fun (r6 : ((List (List (Int))) × ((Int) × ((Int) × (Unit)))) × (Unit)) => (bd (F29 k a0) (fun (r7 : ((List (List (Int))) × ((Int) × ((Int) × (Unit)))) × (Unit)) => (bd (F17 k r1.1.1) (fun (r8 : ((Int) × (Unit)) × (Unit)) => (bd (F30 k a0) (fun (r9 : ((Int) × (Unit)) × (Unit)) => (br (r8.1.1 == r9.1.1)
                (bd (F20 k r2.1.1 r3.1.1) (fun (r10 : ((Bool) × (Unit)) × (Unit)) => (br (cond (cond true r10.1.1 false) (r2.1.2.1 == r3.1.2.1) false)
                  (bd (F20 k r4.1.1 r5.1.1) (fun (r11 : ((Bool) × (Unit)) × (Unit)) => (br (cond (cond (cond true r11.1.1 false) (r4.1.2.1 == r5.1.2.1) false) (r4.1.2.2.1 == r5.1.2.2.1) false)
                    (bd (F31 k r6.1.1 r7.1.1) (fun (r12 : ((Bool) × (Unit)) × (Unit)) => (br (cond (cond (cond true r12.1.1 false) (r6.1.2.1 == r7.1.2.1) false) (r6.1.2.2.1 == r7.1.2.2.1) false)
                      (bd (F20 k r1.1.1 a0) (fun (r13 : ((Bool) × (Unit)) × (Unit)) => (some (((cond true r13.1.1 false), ()), ()))))
                      (some ((false, ()), ())))))
                    (some ((false, ()), ())))))
                  (some ((false, ()), ())))))
                (some ((false, ()), ())))))))))))))))))))))))))) := by kernel_rfl

noncomputable def L8_0 (k : Nat) (s0 : List (List (Int))) (s1 : Int) : Nat → (Bool) × ((List (Int)) × ((Int) × ((Int) × ((Int) × (Unit))))) → Option (LO ((Bool) × (Unit)) ((Bool) × ((List (Int)) × ((Int) × ((Int) × ((Int) × (Unit)))))) (Unit)) :=
  loopF true 0 113 cut8_0 (s0, s1, ()) (fun σ K => ev E0 (fnE E0 k) 8 (rvOf 8) k (codeOf 8 0) _ σ K)

theorem L8_0_step (k m : Nat) (s0 : List (List (Int))) (s1 : Int) (x0 : Bool) (x1 : List (Int)) (x2 : Int) (x3 : Int) (x4 : Int) : L8_0 k s0 s1 (m + 1) (x0, x1, x2, x3, x4, ()) =
  (br (decide (x4 < (((List.length s0) : Nat) : Int)))
   (br (inB x4 (List.length s0))
    (bd (F15 k (List.getD s0 (Int.toNat x4) ([] : List (Int)))) (fun (r : ((List (Int)) × ((Bool) × (Unit))) × (Unit)) => (br (!r.1.2.1)
      (some (.ret (false, ()) ()))
      (br (inB x4 (List.length s0))
       (br (cond false true ((((List.length r.1.1) : Nat) : Int) != (IntKind.wrap (IntKind.i64) ((8 : Int) + (((List.length (List.getD s0 (Int.toNat x4) ([] : List (Int)))) : Nat) : Int)))))
        (some (.ret (false, ()) ()))
        (br (decide ((((List.length x1) + (List.length r.1.1)) * (1 : Nat)) ≤ (140737488355328 : Nat)))
         (br (decide ((((List.length (x1 ++ r.1.1)) : Nat) : Int) ≤ s1))
          (L8_0 k s0 s1 m (x0, ((x1 ++ r.1.1), ((IntKind.wrap (IntKind.i64) (x4 + (1 : Int))), ((((List.length (x1 ++ r.1.1)) : Nat) : Int), ((IntKind.wrap (IntKind.i64) (x4 + (1 : Int))), ()))))))
          (L8_0 k s0 s1 m (x0, ((x1 ++ r.1.1), (x2, (x3, ((IntKind.wrap (IntKind.i64) (x4 + (1 : Int))), ())))))))
         none))
       none))))
    none)
   (some (.brk (x0, (x1, (x2, (x3, (x4, ())))))))) := by kernel_rfl

theorem F8_step (k : Nat) (a0 : List (List (Int))) (a1 : Int) : F8 (k + 1) a0 a1 =
  (bd (F14 k ) (fun (r : ((Bool) × (Unit)) × (Unit)) => (br (!r.1.1)
    (some ((false, ()), ()))
    (bd (F32 k a0 (3000 : Int)) (fun (r1 : ((Int) × (Unit)) × (Unit)) => (br (decide (r1.1.1 > (3000 : Int)))
      (some ((true, ()), ()))
      (br (decide (a1 < (0 : Int)))
       (bdL (L8_0 k a0 (0 : Int) k (false, (([] : List (Int)), ((0 : Int), ((0 : Int), ((0 : Int), ()))))))
        (fun (b : (Bool) × ((List (Int)) × ((Int) × ((Int) × ((Int) × (Unit)))))) => (bd (F28 k b.2.1) (fun (r2 : ((List (List (Int))) × ((Int) × ((Int) × (Unit)))) × (Unit)) => (bd (F31 k r2.1.1 a0) (fun (r3 : ((Bool) × (Unit)) × (Unit)) => (br (cond (cond (!r3.1.1) true (r2.1.2.1 != (((List.length b.2.1) : Nat) : Int))) true (r2.1.2.2.1 != (0 : Int)))
           (some ((false, ()), ()))
           (bd (F28 k (List.take (0 : Nat) (List.drop (0 : Nat) b.2.1))) (fun (r4 : ((List (List (Int))) × ((Int) × ((Int) × (Unit)))) × (Unit)) => (br (b.2.2.2.1 == (0 : Int))
             (br ((true && (leB b.2.2.1 (List.length a0))) && true)
              (bd (F31 k r4.1.1 (List.take (Int.toNat b.2.2.1) a0)) (fun (r5 : ((Bool) × (Unit)) × (Unit)) => (some (((cond (cond r5.1.1 (r4.1.2.1 == b.2.2.2.1) false) (r4.1.2.2.1 == (0 : Int)) false), ()), ()))))
              none)
             (br ((true && (leB b.2.2.1 (List.length a0))) && true)
              (bd (F31 k r4.1.1 (List.take (Int.toNat b.2.2.1) a0)) (fun (r5 : ((Bool) × (Unit)) × (Unit)) => (some (((cond (cond r5.1.1 (r4.1.2.1 == b.2.2.2.1) false) (r4.1.2.2.1 == (1 : Int)) false), ()), ()))))
              none))))))))))
        (fun (j : Nat) => (fun (b : (Bool) × ((List (Int)) × ((Int) × ((Int) × ((Int) × (Unit)))))) => none))
        (fun (q : (Bool) × (Unit)) => (fun (b : Unit) => (some (q, ())))))
       (bdL (L8_0 k a0 a1 k (false, (([] : List (Int)), ((0 : Int), ((0 : Int), ((0 : Int), ()))))))
        (fun (b : (Bool) × ((List (Int)) × ((Int) × ((Int) × ((Int) × (Unit)))))) => (bd (F28 k b.2.1) (fun (r2 : ((List (List (Int))) × ((Int) × ((Int) × (Unit)))) × (Unit)) => (bd (F31 k r2.1.1 a0) (fun (r3 : ((Bool) × (Unit)) × (Unit)) => (br (cond (cond (!r3.1.1) true (r2.1.2.1 != (((List.length b.2.1) : Nat) : Int))) true (r2.1.2.2.1 != (0 : Int)))
           (some ((false, ()), ()))
           (br (decide (a1 > (((List.length b.2.1) : Nat) : Int)))
            (br ((true && (leB (((List.length b.2.1) : Nat) : Int) (List.length b.2.1))) && true)
             (bd (F28 k (List.take ((Int.toNat (((List.length b.2.1) : Nat) : Int)) - (0 : Nat)) (List.drop (0 : Nat) b.2.1))) (fun (r4 : ((List (List (Int))) × ((Int) × ((Int) × (Unit)))) × (Unit)) => (br (b.2.2.2.1 == (((List.length b.2.1) : Nat) : Int))
               (br ((true && (leB b.2.2.1 (List.length a0))) && true)
                (bd (F31 k r4.1.1 (List.take (Int.toNat b.2.2.1) a0)) (fun (r5 : ((Bool) × (Unit)) × (Unit)) => (some (((cond (cond r5.1.1 (r4.1.2.1 == b.2.2.2.1) false) (r4.1.2.2.1 == (0 : Int)) false), ()), ()))))
                none)
               (br ((true && (leB b.2.2.1 (List.length a0))) && true)
                (bd (F31 k r4.1.1 (List.take (Int.toNat b.2.2.1) a0)) (fun (r5 : ((Bool) × (Unit)) × (Unit)) => (some (((cond (cond r5.1.1 (r4.1.2.1 == b.2.2.2.1) false) (r4.1.2.2.1 == (1 : Int)) false), ()), ()))))
                none))))
             none)
            (br ((true && (leB a1 (List.length b.2.1))) && true)
             (bd (F28 k (List.take ((Int.toNat a1) - (0 : Nat)) (List.drop (0 : Nat) b.2.1))) (fun (r4 : ((List (List (Int))) × ((Int) × ((Int) × (Unit)))) × (Unit)) => (br (b.2.2.2.1 == a1)
               (br ((true && (leB b.2.2.1 (List.length a0))) && true)
                (bd (F31 k r4.1.1 (List.take (Int.toNat b.2.2.1) a0)) (fun (r5 : ((Bool) × (Unit)) × (Unit)) => (some (((cond (cond r5.1.1 (r4.1.2.1 == b.2.2.2.1) false) (r4.1.2.2.1 == (0 : Int)) false), ()), ()))))
                none)
               (br ((true && (leB b.2.2.1 (List.length a0))) && true)
                (bd (F31 k r4.1.1 (List.take (Int.toNat b.2.2.1) a0)) (fun (r5 : ((Bool) × (Unit)) × (Unit)) => (some (((cond (cond r5.1.1 (r4.1.2.1 == b.2.2.2.1) false) (r4.1.2.2.1 == (1 : Int)) false), ()), ()))))
                none))))
             none))))))))
        (fun (j : Nat) => (fun (b : (Bool) × ((List (Int)) × ((Int) × ((Int) × ((Int) × (Unit)))))) => none))
        (fun (q : (Bool) × (Unit)) => (fun (b : Unit) => (some (q, ())))))))))))) := by kernel_rfl

noncomputable def L9_0 (k : Nat) (s0 : List (List (Int))) : Nat → (List (Int)) × ((Int) × (Unit)) → Option (LO ((Bool) × (Unit)) ((List (Int)) × ((Int) × (Unit))) (Unit)) :=
  loopF true 0 117 cut9_0 (s0, ()) (fun σ K => ev E0 (fnE E0 k) 9 (rvOf 9) k (codeOf 9 0) _ σ K)

theorem L9_0_step (k m : Nat) (s0 : List (List (Int))) (x0 : List (Int)) (x1 : Int) : L9_0 k s0 (m + 1) (x0, x1, ()) =
  (br (decide (x1 < (((List.length s0) : Nat) : Int)))
   (br (inB x1 (List.length s0))
    (bd (F15 k (List.getD s0 (Int.toNat x1) ([] : List (Int)))) (fun (r : ((List (Int)) × ((Bool) × (Unit))) × (Unit)) => (br (decide ((((List.length x0) + (List.length r.1.1)) * (1 : Nat)) ≤ (140737488355328 : Nat)))
      (L9_0 k s0 m ((x0 ++ r.1.1), ((IntKind.wrap (IntKind.i64) (x1 + (1 : Int))), ())))
      none)))
    none)
   (some (.brk (x0, (x1, ()))))) := by kernel_rfl

theorem F9_step (k : Nat) (a0 : List (List (Int))) (a1 : List (Int)) : F9 (k + 1) a0 a1 =
  (bd (F14 k ) (fun (r : ((Bool) × (Unit)) × (Unit)) => (br (!r.1.1)
    (some ((false, ()), ()))
    (bd (F32 k a0 (2000 : Int)) (fun (r1 : ((Int) × (Unit)) × (Unit)) => (br (cond (decide (r1.1.1 > (2000 : Int))) true (decide ((((List.length a1) : Nat) : Int) > (2000 : Int))))
      (some ((true, ()), ()))
      (bdL (L9_0 k a0 k (([] : List (Int)), ((0 : Int), ())))
       (fun (b : (List (Int)) × ((Int) × (Unit))) => (br (decide ((((List.length b.1) + (List.length a1)) * (1 : Nat)) ≤ (140737488355328 : Nat)))
        (bd (F16 k (b.1 ++ a1) (((List.length b.1) : Nat) : Int)) (fun (r2 : ((List (Int)) × ((Int) × ((Int) × (Unit)))) × (Unit)) => (bd (F16 k a1 (0 : Int)) (fun (r3 : ((List (Int)) × ((Int) × ((Int) × (Unit)))) × (Unit)) => (bd (F28 k (b.1 ++ a1)) (fun (r4 : ((List (List (Int))) × ((Int) × ((Int) × (Unit)))) × (Unit)) => (bd (F28 k a1) (fun (r5 : ((List (List (Int))) × ((Int) × ((Int) × (Unit)))) × (Unit)) => (bd (F20 k r2.1.1 r3.1.1) (fun (r6 : ((Bool) × (Unit)) × (Unit)) => (some (((cond (cond (cond (cond (cond r6.1.1 (r2.1.2.1 == (IntKind.wrap (IntKind.i64) ((((List.length b.1) : Nat) : Int) + r3.1.2.1))) false) (r2.1.2.2.1 == r3.1.2.2.1) false) ((((List.length r4.1.1) : Nat) : Int) == (IntKind.wrap (IntKind.i64) ((((List.length a0) : Nat) : Int) + (((List.length r5.1.1) : Nat) : Int)))) false) (r4.1.2.1 == (IntKind.wrap (IntKind.i64) ((((List.length b.1) : Nat) : Int) + r5.1.2.1))) false) (r4.1.2.2.1 == r5.1.2.2.1) false), ()), ()))))))))))))
        none))
       (fun (j : Nat) => (fun (b : (List (Int)) × ((Int) × (Unit))) => none))
       (fun (q : (Bool) × (Unit)) => (fun (b : Unit) => (some (q, ()))))))))))) := by kernel_rfl

end Go.Proofs.Ytnffdeokhcojfaa.E

namespace Go.Proofs.Ytnffdeokhcojfaa.E
open Go
set_option linter.unusedSimpArgs false
set_option linter.unusedVariables false


/-- what four bits do -/
def tabN : List Nat := [0, 498536548, 997073096, 651767980, 1994146192, 1802195444, 1303535960, 1342533948, 3988292384, 4027552580, 3604390888, 3412177804, 2607071920, 2262029012, 2685067896, 3183342108]
def tabL : List Int := tabN.map fun (n : Nat) => ((n : Nat) : Int)

def nib (v : Nat) : Nat := (v / 16) ^^^ tabN.getD (v % 16) 0
def gg (n : Nat) (x : Int) : Nat := nib (nib (n ^^^ x.toNat))
def sumN (l : List Int) : Nat := 4294967295 ^^^ l.foldl gg 4294967295

theorem xor_lt {a b : Nat} (ha : a < 4294967296) (hb : b < 4294967296) : a ^^^ b < 4294967296 := Nat.xor_lt_two_pow (n := 32) ha hb

theorem xor32 (a b : Nat) (ha : a < 4294967296) (hb : b < 4294967296) : IntKind.u32.wrap (((BitVec.toNat ((BitVec.ofInt (32 : Nat) (a : Int)) ^^^ (BitVec.ofInt (32 : Nat) (b : Int)))) : Nat) : Int) = ((a ^^^ b : Nat) : Int) := by
  rw [BitVec.ofInt_natCast, BitVec.ofInt_natCast, BitVec.toNat_xor, BitVec.toNat_ofNat, BitVec.toNat_ofNat, Nat.mod_eq_of_lt (by omega), Nat.mod_eq_of_lt (by omega)]
  have := xor_lt ha hb
  rw [IntWalk.u32_in _ ⟨by omega, by omega⟩]

theorem and15 (a : Nat) (ha : a < 4294967296) : IntKind.u32.wrap (((BitVec.toNat ((BitVec.ofInt (32 : Nat) (a : Int)) &&& (BitVec.ofInt (32 : Nat) (15 : Int)))) : Nat) : Int) = ((a % 16 : Nat) : Int) := by
  rw [show (15 : Int) = ((15 : Nat) : Int) from rfl, BitVec.ofInt_natCast, BitVec.ofInt_natCast, BitVec.toNat_and, BitVec.toNat_ofNat, BitVec.toNat_ofNat, Nat.mod_eq_of_lt (by omega), Nat.mod_eq_of_lt (by omega)]
  have : a &&& 15 = a % 16 := Nat.and_two_pow_sub_one_eq_mod a 4
  rw [this, IntWalk.u32_in _ ⟨by omega, by omega⟩]

theorem tab_lt (i : Nat) : tabN.getD i 0 < 4294967296 := by
  by_cases h : i < 16
  · have key : ((List.range 16).all fun i => Nat.blt (tabN.getD i 0) 4294967296) = true := by kernel_rfl
    have := List.all_eq_true.1 key i (List.mem_range.2 h)
    rw [Nat.blt_eq] at this
    exact this
  · have : tabN.getD i 0 = 0 := by simp [tabN, List.getD, List.getElem?_eq_none (show (tabN).length ≤ i by simp [tabN]; omega)]; rw [List.getElem?_eq_none (by simp; omega)]; rfl
    rw [this]; omega

theorem nib_lt {v : Nat} (h : v < 4294967296) : nib v < 4294967296 := xor_lt (by omega) (tab_lt _)

theorem gg_lt {n : Nat} {x : Int} (hn : n < 4294967296) (hx : 0 ≤ x ∧ x ≤ 255) : gg n x < 4294967296 := nib_lt (nib_lt (xor_lt hn (by omega)))

theorem fold_lt : ∀ (l : List Int) (n : Nat), Byt l → n < 4294967296 → l.foldl gg n < 4294967296
  | [], n, _, h => h
  | x :: l, n, hb, h => fold_lt l _ (fun y hy => hb y (by simp [hy])) (gg_lt h (hb x (by simp)))

theorem sum_lt {l : List Int} (h : Byt l) : sumN l < 4294967296 := xor_lt (by omega) (fold_lt l _ h (by omega))

theorem tab_get (i : Nat) (h : i < 16) : List.getD tabL i (0 : Int) = ((tabN.getD i 0 : Nat) : Int) := by
  have key : ((List.range 16).all fun i => decide (List.getD tabL i (0 : Int) = ((tabN.getD i 0 : Nat) : Int))) = true := by kernel_rfl
  simpa using List.all_eq_true.1 key i (List.mem_range.2 h)

def stepT (x0 : Int) : Int := (IntKind.wrap (IntKind.u32) (((BitVec.toNat ((BitVec.ofInt (32 : Nat) (Int.fdiv x0 (2 : Int))) ^^^ (BitVec.ofInt (32 : Nat) (IntKind.wrap (IntKind.u32) (((BitVec.toNat ((BitVec.ofInt (32 : Nat) (3988292384 : Int)) &&& (BitVec.ofInt (32 : Nat) (IntKind.wrap (IntKind.u32) ((0 : Int) - (IntKind.wrap (IntKind.u32) (((BitVec.toNat ((BitVec.ofInt (32 : Nat) x0) &&& (BitVec.ofInt (32 : Nat) (1 : Int)))) : Nat) : Int))))))) : Nat) : Int))))) : Nat) : Int))

theorem L46_2_eq (k m : Nat) (x : Int) : L46_2 k (m + 5) (x, ((0 : Int), ())) = some (.brk (stepT (stepT (stepT (stepT x))), ((4 : Int), ()))) := by
  rw [L46_2_step, br_t (by kernel_rfl), show IntKind.i64.wrap ((0 : Int) + 1) = 1 by kernel_rfl, L46_2_step, br_t (by kernel_rfl), show IntKind.i64.wrap ((1 : Int) + 1) = 2 by kernel_rfl,
    L46_2_step, br_t (by kernel_rfl), show IntKind.i64.wrap ((2 : Int) + 1) = 3 by kernel_rfl, L46_2_step, br_t (by kernel_rfl), show IntKind.i64.wrap ((3 : Int) + 1) = 4 by kernel_rfl, L46_2_step, br_f (by kernel_rfl)]
  rfl

def rowT (i : Nat) : Int := stepT (stepT (stepT (stepT (IntKind.u32.wrap (i : Int)))))

def goT : Nat → Nat → List Int → List Int
  | 0, _, l => l
  | r + 1, i, l => goT r (i + 1) (l.set i (rowT i))

theorem L46_0_eq (q : Nat) : ∀ (r m i : Nat) (l : List Int), i + r = 16 → r < m → L46_0 (q + 5) () m (l, ((i : Int), ())) = some (.brk (goT r i l, ((16 : Int), ())))
  | _, 0, _, _, _, h => by omega
  | 0, m + 1, i, l, h1, h2 => by
    have : i = 16 := by omega
    subst this
    rw [L46_0_step, br_f (by kernel_rfl)]; rfl
  | r + 1, m + 1, i, l, h1, h2 => by
    rw [L46_0_step, br_t (decide_eq_true (by omega)), L46_2_eq, bdL_b]
    dsimp only
    rw [br_t (inB_t ⟨by omega, by omega⟩), IntWalk.i64_in _ ⟨by omega, by omega⟩, show ((i : Int) + 1) = ((i + 1 : Nat) : Int) by omega, Int.toNat_natCast]
    exact L46_0_eq q r m (i + 1) _ (by omega) (by omega)

theorem F46_eq (k : Nat) : F46 (k + 20) = some ((tabL, ()), ()) := by
  rw [F46_step]
  have := L46_0_eq (k + 14) 16 (k + 19) 0 (List.replicate 16 0) (by omega) (by omega)
  have h2 : goT 16 0 (List.replicate 16 (0 : Int)) = tabL := by kernel_rfl
  rw [h2] at this
  have this : L46_0 (k + 19) () (k + 19) (List.replicate 16 0, ((0 : Int), ())) = some (.brk (tabL, ((16 : Int), ()))) := this
  rw [this, bdL_b]

theorem L17_0_eq (k : Nat) (l : List Int) (hb : Byt l) (hl : l.length ≤ 1000000) : ∀ (m i n : Nat), i ≤ l.length → l.length - i < m → n < 4294967296 →
    L17_0 k () l (l.length : Int) m (tabL, ((n : Int), ((i : Int), ()))) = some (.brk (tabL, ((((l.drop i).foldl gg n : Nat) : Int), ((l.length : Int), ()))))
  | 0, i, n, h1, h2, h3 => by omega
  | m + 1, i, n, h1, h2, h3 => by
    rw [L17_0_step]
    by_cases h : i < l.length
    · have hx := hb (l.getD i 0) (by simp [List.getD, h])
      rw [br_t (decide_eq_true (by omega)), br_t (inB_t ⟨by omega, by omega⟩), Int.toNat_natCast, getD_drop l i h]
      generalize l.getD i 0 = x at *
      obtain ⟨x, rfl⟩ : ∃ n : Nat, x = (n : Int) := ⟨x.toNat, by omega⟩
      have hx6 : x < 4294967296 := by omega
      have h1x := xor_lt h3 hx6
      have f16 : ∀ a : Nat, Int.fdiv (a : Int) 16 = ((a / 16 : Nat) : Int) := fun a => by
        rw [show (16 : Int) = ((16 : Nat) : Int) from rfl, Int.fdiv_eq_ediv_of_nonneg _ (by omega)]; rfl
      rw [IntWalk.u32_in (x : Int) ⟨by omega, by omega⟩, xor32 n x h3 hx6]
      rw [and15 _ h1x, f16, Int.toNat_natCast, tab_get _ (by omega), xor32 _ _ (by omega) (tab_lt _)]
      have h2x : (n ^^^ x) / 16 ^^^ tabN.getD ((n ^^^ x) % 16) 0 < 4294967296 := nib_lt h1x
      rw [and15 _ h2x, f16, Int.toNat_natCast, tab_get _ (by omega), xor32 _ _ (by omega) (tab_lt _)]
      rw [br_t (inB_t ⟨by omega, by omega⟩), br_t (inB_t ⟨by omega, by omega⟩), IntWalk.i64_in _ ⟨by omega, by omega⟩, show ((i : Int) + 1) = ((i + 1 : Nat) : Int) by omega]
      have := L17_0_eq k l hb hl m (i + 1) (gg n (x : Int)) (by omega) (by omega) (gg_lt h3 hx)
      exact this
    · have : i = l.length := by omega
      subst this
      rw [br_f (decide_eq_false (by omega))]
      simp

theorem F17_eq (k : Nat) (l : List Int) (hb : Byt l) (hl : l.length ≤ 1000000) : F17 (k + l.length + 21) l = some (((sumN l : Int), ()), ()) := by
  rw [F17_step, show k + l.length + 20 = (k + l.length) + 20 from rfl, F46_eq]
  simp only [bd_s]
  have := L17_0_eq (k + l.length + 20) l hb hl (k + l.length + 20) 0 4294967295 (by omega) (by omega) (by omega)
  have h2 : L17_0 (k + l.length + 20) () l (l.length : Int) (k + l.length + 20) (tabL, ((4294967295 : Int), ((0 : Int), ()))) = some (.brk (tabL, (((l.foldl gg 4294967295 : Nat) : Int), ((l.length : Int), ())))) := this
  rw [h2, bdL_b]
  dsimp only
  have hf := fold_lt l 4294967295 hb (by omega)
  have hs := sum_lt hb
  rw [show (4294967295 : Int) = ((4294967295 : Nat) : Int) from rfl, xor32 _ _ (by omega) hf, IntWalk.i64_in _ ⟨by omega, by unfold sumN at hs; omega⟩]
  rfl

/-! the sum is a sum -/

theorem nib_xor (a b : Nat) : nib (a ^^^ b) = nib a ^^^ nib b := by
  unfold nib
  have e1 : (a ^^^ b) / 16 = a / 16 ^^^ b / 16 := by
    have := Nat.shiftRight_xor_distrib (i := 4) (a := a) (b := b)
    simpa [Nat.shiftRight_eq_div_pow] using this
  have e2 : (a ^^^ b) % 16 = a % 16 ^^^ b % 16 := Nat.xor_mod_two_pow (n := 4)
  have key : ((List.range 16).all fun x => (List.range 16).all fun y => Nat.beq (tabN.getD (x ^^^ y) 0) (tabN.getD x 0 ^^^ tabN.getD y 0)) = true := by kernel_rfl
  have h := List.all_eq_true.1 (List.all_eq_true.1 key (a % 16) (List.mem_range.2 (by omega))) (b % 16) (List.mem_range.2 (by omega))
  rw [e1, e2, Nat.eq_of_beq_eq_true h]
  rw [Nat.xor_assoc, Nat.xor_assoc]
  congr 1
  rw [← Nat.xor_assoc, ← Nat.xor_assoc, Nat.xor_comm (b / 16)]

end Go.Proofs.Ytnffdeokhcojfaa.E

namespace Go.Proofs.Ytnffdeokhcojfaa.E
open Go
set_option linter.unusedSimpArgs false
set_option linter.unusedVariables false

theorem Byt.drop {a : List Int} (ha : Byt a) (n : Nat) : Byt (a.drop n) := fun x hx => ha x (List.mem_of_mem_drop hx)

theorem F17_eq' (K : Nat) (l : List Int) (hb : Byt l) (hl : l.length ≤ 1000000) (hK : l.length + 21 ≤ K) : F17 K l = some (((sumN l : Int), ()), ()) := by
  have := F17_eq (K - l.length - 21) l hb hl
  rwa [show K - l.length - 21 + l.length + 21 = K by omega] at this

def put4 (n : Nat) : List Int := [((n % 256 : Nat) : Int), ((n / 256 % 256 : Nat) : Int), ((n / 65536 % 256 : Nat) : Int), ((n / 16777216 % 256 : Nat) : Int)]

def get4 (l : List Int) : Nat := (l.getD 0 0).toNat + (l.getD 1 0).toNat * 256 + (l.getD 2 0).toNat * 65536 + (l.getD 3 0).toNat * 16777216

theorem put4_byt (n : Nat) : Byt (put4 n) := by
  intro x hx
  simp only [put4, List.mem_cons, List.not_mem_nil, or_false] at hx
  omega

theorem get4_lt {l : List Int} (hb : Byt l) : get4 l < 4294967296 := by
  have h : ∀ i, 0 ≤ l.getD i 0 ∧ l.getD i 0 ≤ 255 := by
    intro i
    by_cases hi : i < l.length
    · exact hb _ (by simp [List.getD, hi])
    · simp [List.getD, List.getElem?_eq_none (show l.length ≤ i by omega)]
  have h0 := h 0
  have h1 := h 1
  have h2 := h 2
  have h3 := h 3
  unfold get4
  omega

theorem get_put (n : Nat) (h : n < 4294967296) (l : List Int) : get4 (put4 n ++ l) = n := by
  simp only [get4, put4, List.cons_append]
  simp only [List.getD_cons_zero, List.getD_cons_succ, Int.toNat_natCast]
  omega

theorem F43_eq (k n : Nat) : F43 (k + 1) (n : Int) = some ((put4 n, ()), ()) := by
  rw [F43_step]
  have f : ∀ c : Nat, Int.fdiv (n : Int) (c : Int) = ((n / c : Nat) : Int) := fun c => by rw [Int.fdiv_eq_ediv_of_nonneg _ (by omega)]; rfl
  rw [show (256 : Int) = ((256 : Nat) : Int) from rfl, show (65536 : Int) = ((65536 : Nat) : Int) from rfl, show (16777216 : Int) = ((16777216 : Nat) : Int) from rfl, f, f, f]
  simp only [IntKind.wrap_u8]
  rfl

theorem or64 (a b i : Nat) (ha : a < 2 ^ i) (hi : i ≤ 24) (hb : b < 256) : IntKind.i64.wrap (((BitVec.toNat ((BitVec.ofInt (64 : Nat) (a : Int)) ||| (BitVec.ofInt (64 : Nat) ((b * 2 ^ i : Nat) : Int)))) : Nat) : Int) = ((a + b * 2 ^ i : Nat) : Int) := by
  have hp : 2 ^ i ≤ 2 ^ 24 := Nat.pow_le_pow_right (by omega) hi
  have hm : b * 2 ^ i ≤ 255 * 2 ^ 24 := Nat.mul_le_mul (by omega) hp
  rw [BitVec.ofInt_natCast, BitVec.ofInt_natCast, BitVec.toNat_or, BitVec.toNat_ofNat, BitVec.toNat_ofNat, Nat.mod_eq_of_lt (by omega), Nat.mod_eq_of_lt (by omega)]
  have : a ||| b * 2 ^ i = a + b * 2 ^ i := by
    have := Nat.two_pow_add_eq_or_of_lt (i := i) (b := a) ha b
    rw [Nat.or_comm, Nat.mul_comm b]; omega
  rw [this, IntWalk.i64_in _ ⟨by omega, by omega⟩]

theorem F44_eq (k : Nat) (l : List Int) (hb : Byt l) (h : 4 ≤ l.length) : F44 (k + 1) l = some (((get4 l : Int), ()), ()) := by
  rw [F44_step, br_t (inB_t ⟨by omega, by omega⟩), br_t (inB_t ⟨by omega, by omega⟩), br_t (inB_t ⟨by omega, by omega⟩), br_t (inB_t ⟨by omega, by omega⟩)]
  have hx : ∀ i, i < l.length → ∃ n : Nat, l.getD i 0 = (n : Int) ∧ n < 256 := fun i hi => by
    have := hb (l.getD i 0) (by simp [List.getD, hi])
    exact ⟨(l.getD i 0).toNat, by omega, by omega⟩
  obtain ⟨a, ea, ha⟩ := hx 0 (by omega)
  obtain ⟨b, eb, hb'⟩ := hx 1 (by omega)
  obtain ⟨c, ec, hc⟩ := hx 2 (by omega)
  obtain ⟨d, ed, hd⟩ := hx 3 (by omega)
  unfold get4
  rw [ea, eb, ec, ed]
  simp only [Int.toNat_natCast]
  rw [IntWalk.i64_in (a : Int) ⟨by omega, by omega⟩, IntWalk.i64_in (b : Int) ⟨by omega, by omega⟩, IntWalk.i64_in (c : Int) ⟨by omega, by omega⟩, IntWalk.i64_in (d : Int) ⟨by omega, by omega⟩]
  rw [IntWalk.i64_in ((b : Int) * 256) ⟨by omega, by omega⟩, IntWalk.i64_in ((c : Int) * 65536) ⟨by omega, by omega⟩, IntWalk.i64_in ((d : Int) * 16777216) ⟨by omega, by omega⟩]
  have e1 := or64 a b 8 (by omega) (by omega) hb'
  rw [show ((b * 2 ^ 8 : Nat) : Int) = (b : Int) * 256 by omega] at e1
  rw [e1]
  have e2 := or64 (a + b * 2 ^ 8) c 16 (by omega) (by omega) hc
  rw [show ((c * 2 ^ 16 : Nat) : Int) = (c : Int) * 65536 by omega] at e2
  rw [e2]
  have e3 := or64 (a + b * 2 ^ 8 + c * 2 ^ 16) d 24 (by omega) (by omega) hd
  rw [show ((d * 2 ^ 24 : Nat) : Int) = (d : Int) * 16777216 by omega] at e3
  rw [e3]

theorem F42_eq (k : Nat) (x y z : List Int) (h : x.length + y.length + z.length ≤ 1000000) : F42 (k + 10) [x, y, z] = some ((x ++ y ++ z, ()), ()) := by
  have i0 : inB 0 3 = true := by kernel_rfl
  have i1 : inB 1 3 = true := by kernel_rfl
  have i2 : inB 2 3 = true := by kernel_rfl
  have w0 : IntKind.i64.wrap ((0 : Int) + 1) = 1 := by kernel_rfl
  have w1 : IntKind.i64.wrap ((1 : Int) + 1) = 2 := by kernel_rfl
  have w2 : IntKind.i64.wrap ((2 : Int) + 1) = 3 := by kernel_rfl
  have hA : ∀ m, L42_0 (k + 9) [x, y, z] 3 (m + 4) ((0 : Int), ((0 : Int), ())) = some (.brk (((x.length + y.length + z.length : Nat) : Int), ((3 : Int), ()))) := by
    intro m
    rw [L42_0_step, br_t (by kernel_rfl), br_t (c := inB 0 [x, y, z].length) (by kernel_rfl), show List.getD [x, y, z] (Int.toNat 0) [] = x from rfl, IntWalk.i64_in _ ⟨by omega, by omega⟩, br_f (decide_eq_false (by omega)), w0]
    rw [L42_0_step, br_t (by kernel_rfl), br_t (c := inB 1 [x, y, z].length) (by kernel_rfl), show List.getD [x, y, z] (Int.toNat 1) [] = y from rfl, IntWalk.i64_in (_ + _ + _) ⟨by omega, by omega⟩, br_f (decide_eq_false (by omega)), w1]
    rw [L42_0_step, br_t (by kernel_rfl), br_t (c := inB 2 [x, y, z].length) (by kernel_rfl), show List.getD [x, y, z] (Int.toNat 2) [] = z from rfl, IntWalk.i64_in (_ + _ + _ + _) ⟨by omega, by omega⟩, br_f (decide_eq_false (by omega)), w2]
    rw [L42_0_step, br_f (by kernel_rfl)]
    congr 3
    omega
  have hB : ∀ m, L42_2 (k + 9) [x, y, z] 3 (m + 4) (([] : List Int), ((0 : Int), ())) = some (.brk (x ++ y ++ z, ((3 : Int), ()))) := by
    intro m
    rw [L42_2_step, br_t (by kernel_rfl), br_t (c := inB 0 [x, y, z].length) (by kernel_rfl), show List.getD [x, y, z] (Int.toNat 0) [] = x from rfl, br_t (decide_eq_true (by simp; omega)), w0]
    rw [L42_2_step, br_t (by kernel_rfl), br_t (c := inB 1 [x, y, z].length) (by kernel_rfl), show List.getD [x, y, z] (Int.toNat 1) [] = y from rfl, br_t (decide_eq_true (by simp; omega)), w1]
    rw [L42_2_step, br_t (by kernel_rfl), br_t (c := inB 2 [x, y, z].length) (by kernel_rfl), show List.getD [x, y, z] (Int.toNat 2) [] = z from rfl, br_t (decide_eq_true (by simp; omega)), w2]
    rw [L42_2_step, br_f (by kernel_rfl)]
    simp
  rw [F42_step, show (([x, y, z].length : Nat) : Int) = 3 from rfl, hA (k + 5), bdL_b]
  dsimp only
  rw [br_t (makeB_t ⟨by omega, by omega, by omega⟩), hB (k + 5), bdL_b]

/-- a frame -/
def frame (l : List Int) : List Int := put4 l.length ++ put4 (sumN l) ++ l

theorem frame_len (l : List Int) : (frame l).length = 8 + l.length := by simp [frame, put4]; omega

theorem frame_byt {l : List Int} (h : Byt l) : Byt (frame l) := by
  intro x hx
  simp only [frame, List.mem_append] at hx
  rcases hx with (hx | hx) | hx
  · exact put4_byt _ x hx
  · exact put4_byt _ x hx
  · exact h x hx

theorem F15_eq (K : Nat) (l : List Int) (hb : Byt l) (hl : l.length ≤ 65536) (hK : l.length + 40 ≤ K) : F15 K l = some ((frame l, (true, ())), ()) := by
  obtain ⟨k, rfl⟩ : ∃ k, K = k + 11 := ⟨K - 11, by omega⟩
  rw [F15_step, br_f (decide_eq_false (by omega)), show F43 (k + 10) (l.length : Int) = _ from F43_eq (k + 9) l.length]
  simp only [bd_s]
  rw [F17_eq' (k + 10) l hb (by omega) (by omega)]
  simp only [bd_s]
  rw [show F43 (k + 10) (sumN l : Int) = _ from F43_eq (k + 9) (sumN l)]
  simp only [bd_s]
  rw [F42_eq k _ _ _ (by simp [put4]; omega)]
  rfl

/-- what stands at a place -/
def nextS (b : List Int) (a : Int) : List Int × Int × Int :=
  if a < 0 ∨ a > b.length then ([], 0, 2)
  else
    let rest := b.drop a.toNat
    if rest.length < 8 then ([], a, 1)
    else if get4 rest > 65536 then ([], a, 2)
    else if get4 rest > (rest.drop 8).length then ([], a, 1)
    else if sumN ((rest.drop 8).take (get4 rest)) ≠ get4 (rest.drop 4) then ([], a, 2)
    else ((rest.drop 8).take (get4 rest), a + 8 + get4 rest, 0)

theorem F16_eq (K : Nat) (b : List Int) (a : Int) (hb : Byt b) (hl : b.length ≤ 1000000) (hK : b.length + 50 ≤ K) :
    F16 K b a = some (((nextS b a).1, ((nextS b a).2.1, ((nextS b a).2.2, ()))), ()) := by
  obtain ⟨k, rfl⟩ : ∃ k, K = k + 2 := ⟨K - 2, by omega⟩
  rw [F16_step]
  unfold nextS
  by_cases h0 : a < 0 ∨ a > b.length
  · rw [if_pos h0, br_t]
    rcases h0 with h | h
    · rw [decide_eq_true h]; rfl
    · by_cases h' : a < 0
      · rw [decide_eq_true h']; rfl
      · rw [decide_eq_false h']; exact decide_eq_true h
  · rw [if_neg h0, br_f (by rw [decide_eq_false (by omega)]; exact decide_eq_false (by omega)), br_t (by simp [leB]; omega)]
    have hbr : Byt (b.drop a.toNat) := hb.drop _
    have hrl : (b.drop a.toNat).length ≤ b.length := by simp
    generalize hrest : b.drop a.toNat = rest at *
    dsimp only
    by_cases h8 : rest.length < 8
    · rw [if_pos h8, br_t (decide_eq_true (by omega))]
    · rw [if_neg h8, br_f (decide_eq_false (by omega)), show F44 (k + 1) rest = _ from F44_eq k rest hbr (by omega)]
      simp only [bd_s]
      rw [br_t (by simp [leB]; omega), show F44 (k + 1) (rest.drop 4) = _ from F44_eq k _ (hbr.drop _) (by simp; omega)]
      simp only [bd_s]
      rw [br_t (by simp [leB]; omega)]
      have hg := get4_lt hbr
      generalize hn : get4 rest = n at *
      by_cases h6 : n > 65536
      · rw [if_pos h6, br_t (decide_eq_true (by omega))]
      · rw [if_neg h6, br_f (decide_eq_false (by omega))]
        by_cases h7 : n > (rest.drop 8).length
        · rw [if_pos h7, br_t (decide_eq_true (by omega))]
        · rw [if_neg h7, br_f (decide_eq_false (by omega))]
          have hle : leB (n : Int) (rest.drop 8).length = true := leB_t ⟨by omega, by omega⟩
          have hd8 : (rest.drop 8).length ≤ rest.length := by simp
          have htl : ((rest.drop 8).take n).length ≤ (rest.drop 8).length := by simp; omega
          have h17 : F17 (k + 1) ((rest.drop 8).take n) = some (((sumN ((rest.drop 8).take n) : Int), ()), ()) := F17_eq' (k + 1) ((rest.drop 8).take n) ((hbr.drop 8).take n) (by omega) (by omega)
          have h45 : F45 (k + 1) ((rest.drop 8).take n) = some (((rest.drop 8).take n, ()), ()) := F45_eq k _ (by omega)
          rw [br_t (by rw [hle]; rfl), Int.toNat_natCast]
          generalize (rest.drop 8).take n = body at *
          generalize hsum : sumN body = sm at *
          generalize hget : get4 (rest.drop 4) = gt at *
          rw [h17, bd_s]
          dsimp only
          by_cases h9 : sm ≠ gt
          · rw [if_pos h9, br_t (by simp only [bne_iff_ne, ne_eq]; omega)]
          · rw [if_neg h9, br_f (by simp only [bne_eq_false_iff_eq]; omega), br_t (by rw [hle]; rfl), h45, bd_s]
            dsimp only
            rw [IntWalk.i64_in (a + 8) ⟨by omega, by omega⟩, IntWalk.i64_in _ ⟨by omega, by omega⟩]

theorem F14_eq (k : Nat) : F14 (k + 100) = some ((true, ()), ()) := by
  have b0 : Byt ([] : List Int) := by intro x hx; simp at hx
  have b2 : Byt ([97, 98] : List Int) := by intro x hx; simp at hx; omega
  have b9 : Byt ([49, 50, 51, 52, 53, 54, 55, 56, 57] : List Int) := by intro x hx; simp at hx; omega
  rw [F14_step, F15_eq (k + 99) [] b0 (by simp) (by simp)]
  simp only [bd_s]
  rw [F15_eq (k + 99) [97, 98] b2 (by simp) (by simp)]
  simp only [bd_s]
  have hf2 : frame [97, 98] = [2, 0, 0, 0, 131, 72, 131, 158, 97, 98] ∨ True := .inr trivial
  have hn : nextS (frame [97, 98]) 0 = ([97, 98], 10, 0) := by kernel_rfl
  rw [F16_eq (k + 99) _ 0 (frame_byt b2) (by rw [frame_len]; simp) (by rw [frame_len]; simp), hn]
  simp only [bd_s]
  rw [br_t (by rfl), F17_eq' (k + 99) _ b9 (by simp) (by simp)]
  simp only [bd_s]
  have hs : sumN [49, 50, 51, 52, 53, 54, 55, 56, 57] = 3421780262 := by kernel_rfl
  rw [hs, frame_len, br_t (by rfl)]
  rfl

end Go.Proofs.Ytnffdeokhcojfaa.E

namespace Go.Proofs.Ytnffdeokhcojfaa.E
open Go
set_option linter.unusedSimpArgs false
set_option linter.unusedVariables false

theorem xor8 (a b : Nat) (ha : a < 256) (hb : b < 256) : IntKind.u8.wrap (((BitVec.toNat ((BitVec.ofInt (8 : Nat) (a : Int)) ^^^ (BitVec.ofInt (8 : Nat) (b : Int)))) : Nat) : Int) = ((a ^^^ b : Nat) : Int) := by
  rw [BitVec.ofInt_natCast, BitVec.ofInt_natCast, BitVec.toNat_xor, BitVec.toNat_ofNat, BitVec.toNat_ofNat, Nat.mod_eq_of_lt (by omega), Nat.mod_eq_of_lt (by omega)]
  have : a ^^^ b < 256 := Nat.xor_lt_two_pow (n := 8) ha hb
  rw [IntWalk.u8_in _ ⟨by omega, by omega⟩]

theorem xor64 (a b : Nat) (ha : a < 4294967296) (hb : b < 4294967296) : IntKind.i64.wrap (((BitVec.toNat ((BitVec.ofInt (64 : Nat) (a : Int)) ^^^ (BitVec.ofInt (64 : Nat) (b : Int)))) : Nat) : Int) = ((a ^^^ b : Nat) : Int) := by
  rw [BitVec.ofInt_natCast, BitVec.ofInt_natCast, BitVec.toNat_xor, BitVec.toNat_ofNat, BitVec.toNat_ofNat, Nat.mod_eq_of_lt (by omega), Nat.mod_eq_of_lt (by omega)]
  have := xor_lt ha hb
  rw [IntWalk.i64_in _ ⟨by omega, by omega⟩]

/-- three texts against one another -/
def X3 : List Int → List Int → List Int → List Int
  | x :: xs, y :: ys, z :: zs => ((x.toNat ^^^ y.toNat ^^^ z.toNat : Nat) : Int) :: X3 xs ys zs
  | _, _, _ => []

theorem X3_byt : ∀ {a b c : List Int}, Byt a → Byt b → Byt c → Byt (X3 a b c)
  | x :: xs, y :: ys, z :: zs, ha, hb, hc => by
    intro v hv
    simp only [X3] at hv
    rcases List.mem_cons.1 hv with rfl | hv
    · have h1 := ha x (by simp)
      have h2 := hb y (by simp)
      have h3 := hc z (by simp)
      have h4 : x.toNat ^^^ y.toNat < 256 := Nat.xor_lt_two_pow (n := 8) (by omega) (by omega)
      have h5 : x.toNat ^^^ y.toNat ^^^ z.toNat < 256 := Nat.xor_lt_two_pow (n := 8) (by omega) (by omega)
      omega
    · exact X3_byt (fun x hx => ha x (by simp [hx])) (fun x hx => hb x (by simp [hx])) (fun x hx => hc x (by simp [hx])) v hv
  | [], _, _, _, _, _ => by intro v hv; simp [X3] at hv
  | _ :: _, [], _, _, _, _ => by intro v hv; simp [X3] at hv
  | _ :: _, _ :: _, [], _, _, _ => by intro v hv; simp [X3] at hv

theorem X3_len : ∀ {a b c : List Int}, a.length = b.length → b.length = c.length → (X3 a b c).length = a.length
  | x :: xs, y :: ys, z :: zs, h1, h2 => by simp only [X3, List.length_cons] at *; rw [X3_len (by omega) (by omega)]
  | [], _, _, _, _ => by simp [X3]
  | _ :: _, [], _, h, _ => by simp at h
  | _ :: _, _ :: _, [], _, h => by simp at h

theorem fold_X3 : ∀ (a b c : List Int) (n1 n2 n3 : Nat), a.length = b.length → b.length = c.length →
    (X3 a b c).foldl gg (n1 ^^^ n2 ^^^ n3) = a.foldl gg n1 ^^^ b.foldl gg n2 ^^^ c.foldl gg n3
  | x :: xs, y :: ys, z :: zs, n1, n2, n3, h1, h2 => by
    simp only [X3, List.foldl_cons]
    have e : gg (n1 ^^^ n2 ^^^ n3) ((x.toNat ^^^ y.toNat ^^^ z.toNat : Nat) : Int) = gg n1 x ^^^ gg n2 y ^^^ gg n3 z := by
      unfold gg
      rw [Int.toNat_natCast, ← nib_xor, ← nib_xor, ← nib_xor, ← nib_xor]
      congr 2
      ac_rfl
    rw [e]
    exact fold_X3 xs ys zs _ _ _ (by simpa using h1) (by simpa using h2)
  | [], [], [], n1, n2, n3, _, _ => rfl
  | [], _ :: _, _, _, _, _, h, _ => by simp at h
  | [], [], _ :: _, _, _, _, _, h => by simp at h
  | _ :: _, [], _, _, _, _, h, _ => by simp at h
  | _ :: _, _ :: _, [], _, _, _, _, h => by simp at h

theorem sum_X3 (a b c : List Int) (h1 : a.length = b.length) (h2 : b.length = c.length) : sumN (X3 a b c) = sumN a ^^^ sumN b ^^^ sumN c := by
  unfold sumN
  have hF : (4294967295 : Nat) = 4294967295 ^^^ 4294967295 ^^^ 4294967295 := by decide
  have h := fold_X3 a b c 4294967295 4294967295 4294967295 h1 h2
  rw [← hF] at h
  rw [h]
  generalize a.foldl gg 4294967295 = A
  generalize b.foldl gg 4294967295 = B
  generalize c.foldl gg 4294967295 = C
  generalize (4294967295 : Nat) = F
  have : (F ^^^ A) ^^^ (F ^^^ B) ^^^ (F ^^^ C) = (F ^^^ F) ^^^ (F ^^^ (A ^^^ B ^^^ C)) := by ac_rfl
  rw [this, Nat.xor_self, Nat.zero_xor]

theorem L4_0_eq (k : Nat) (a b c : List Int) (ha : Byt a) (hb : Byt b) (hc : Byt c) (h1 : a.length = b.length) (h2 : b.length = c.length) (hl : a.length ≤ 3000) : ∀ (m i : Nat) (x : List Int), i ≤ a.length → a.length - i < m → x.length = a.length →
    L4_0 k a b c () m (x, ((i : Int), ())) = some (.brk (x.take i ++ X3 (a.drop i) (b.drop i) (c.drop i), ((a.length : Int), ())))
  | 0, i, x, g1, g2, g3 => by omega
  | m + 1, i, x, g1, g2, g3 => by
    rw [L4_0_step]
    by_cases h : i < a.length
    · have hx : ∀ (l : List Int), Byt l → i < l.length → ∃ n : Nat, l.getD i 0 = (n : Int) ∧ n < 256 := fun l hb hi => by
        have := hb (l.getD i 0) (by simp [List.getD, hi])
        exact ⟨(l.getD i 0).toNat, by omega, by omega⟩
      obtain ⟨u, eu, hu⟩ := hx a ha h
      obtain ⟨v, ev, hv⟩ := hx b hb (by omega)
      obtain ⟨w, ew, hw⟩ := hx c hc (by omega)
      have huv : u ^^^ v < 256 := Nat.xor_lt_two_pow (n := 8) hu hv
      rw [br_t (decide_eq_true (by omega)), br_t (inB_t ⟨by omega, by omega⟩), br_t (inB_t ⟨by omega, by omega⟩), br_t (inB_t ⟨by omega, by omega⟩), br_t (inB_t ⟨by omega, by omega⟩), Int.toNat_natCast,
        getD_drop a i h, getD_drop b i (by omega), getD_drop c i (by omega), eu, ev, ew, xor8 u v hu hv, xor8 _ w huv hw, IntWalk.i64_in _ ⟨by omega, by omega⟩, show ((i : Int) + 1) = ((i + 1 : Nat) : Int) by omega]
      rw [L4_0_eq k a b c ha hb hc h1 h2 hl m (i + 1) _ (by omega) (by omega) (by simpa using g3)]
      simp only [X3, Int.toNat_natCast]
      congr 3
      have : i < x.length := by omega
      rw [List.take_add_one]
      simp [this, List.take_set_of_le]
    · have : i = a.length := by omega
      subst this
      rw [br_f (decide_eq_false (by omega)), List.drop_eq_nil_of_le (Nat.le_refl _), List.take_of_length_le (by omega)]
      simp [X3]

theorem F4_eq (q : Nat) (a b c : List Int) (ha : Byt a) (hb : Byt b) (hc : Byt c) : F4 (q + 3101) a b c = some ((true, ()), ()) := by
  rw [F4_step, show F14 (q + 3100) = _ from F14_eq (q + 3000)]
  simp only [bd_s, br_false, Bool.not_true]
  by_cases h : a.length ≤ 3000 ∧ a.length = b.length ∧ b.length = c.length
  · obtain ⟨h0, h1, h2⟩ := h
    have e1 : ((a.length : Int) != (b.length : Int)) = false := by simp only [bne_eq_false_iff_eq]; omega
    have e2 : ((b.length : Int) != (c.length : Int)) = false := by simp only [bne_eq_false_iff_eq]; omega
    rw [br_f (by rw [decide_eq_false (by omega), e1, e2]; rfl), br_t (makeB_t ⟨by omega, by omega, by omega⟩), Int.toNat_natCast]
    have hL := L4_0_eq (q + 3100) a b c ha hb hc h1 h2 h0 (q + 3100) 0 (List.replicate a.length 0) (by omega) (by omega) (by simp)
    have hL' : L4_0 (q + 3100) a b c () (q + 3100) (List.replicate a.length 0, ((0 : Int), ())) = some (.brk (X3 a b c, ((a.length : Int), ()))) := by simpa using hL
    have hX := X3_byt ha hb hc
    have hXl := X3_len h1 h2
    rw [hL', bdL_b]
    dsimp only
    rw [F17_eq' (q + 3100) (X3 a b c) hX (by omega) (by omega), bd_s, F17_eq' (q + 3100) a ha (by omega) (by omega), bd_s, F17_eq' (q + 3100) b hb (by omega) (by omega), bd_s, F17_eq' (q + 3100) c hc (by omega) (by omega), bd_s]
    dsimp only
    have s1 := sum_lt ha
    have s2 := sum_lt hb
    have s3 := sum_lt hc
    rw [xor64 _ _ s1 s2, xor64 _ _ (xor_lt s1 s2) s3, sum_X3 a b c h1 h2]
    simp
  · rw [br_t]
    by_cases h0 : a.length ≤ 3000
    · rw [decide_eq_false (by omega)]
      by_cases h1 : a.length = b.length
      · have h2 : b.length ≠ c.length := fun h2 => h ⟨h0, h1, h2⟩
        have e1 : ((a.length : Int) != (b.length : Int)) = false := by simp only [bne_eq_false_iff_eq]; omega
        have e2 : ((b.length : Int) != (c.length : Int)) = true := by simp only [bne_iff_ne, ne_eq]; omega
        rw [e1, e2]; rfl
      · have e1 : ((a.length : Int) != (b.length : Int)) = true := by simp only [bne_iff_ne, ne_eq]; omega
        rw [e1]; rfl
    · rw [decide_eq_true (by omega)]; rfl

end Go.Proofs.Ytnffdeokhcojfaa.E

namespace Go.Proofs.Ytnffdeokhcojfaa.E
open Go
set_option linter.unusedSimpArgs false
set_option linter.unusedVariables false

theorem nib_zero {v : Nat} (hv : v < 4294967296) (h : nib v = 0) : v = 0 := by
  unfold nib at h
  have h1 : v / 16 = tabN.getD (v % 16) 0 := by
    have : v / 16 ^^^ (v / 16 ^^^ tabN.getD (v % 16) 0) = v / 16 ^^^ 0 := by rw [h]
    rw [← Nat.xor_assoc, Nat.xor_self, Nat.zero_xor, Nat.xor_zero] at this
    exact this.symm
  have key : ((List.range 16).all fun i => Nat.beq i 0 || Nat.ble 268435456 (tabN.getD i 0)) = true := by kernel_rfl
  have := List.all_eq_true.1 key (v % 16) (List.mem_range.2 (by omega))
  simp only [Bool.or_eq_true] at this
  rcases this with h2 | h2
  · have h2 := Nat.eq_of_beq_eq_true h2
    rw [h2] at h1
    have h3 : tabN.getD 0 0 = 0 := rfl
    omega
  · have := Nat.le_of_ble_eq_true h2
    omega

theorem xor_eq_zero' {a b : Nat} (h : a ^^^ b = 0) : a = b := by
  have : a ^^^ (a ^^^ b) = a ^^^ 0 := by rw [h]
  rw [← Nat.xor_assoc, Nat.xor_self, Nat.zero_xor, Nat.xor_zero] at this
  exact this.symm

theorem nib_inj {a b : Nat} (ha : a < 4294967296) (hb : b < 4294967296) (h : nib a = nib b) : a = b := by
  apply xor_eq_zero'
  apply nib_zero (xor_lt ha hb)
  rw [nib_xor, h, Nat.xor_self]

theorem gg_inj {a b : Nat} {x : Int} (ha : a < 4294967296) (hb : b < 4294967296) (hx : 0 ≤ x ∧ x ≤ 255) (h : gg a x = gg b x) : a = b := by
  have h1 := nib_inj (nib_lt (xor_lt ha (by omega))) (nib_lt (xor_lt hb (by omega))) h
  have h2 := nib_inj (xor_lt ha (by omega)) (xor_lt hb (by omega)) h1
  have : (a ^^^ x.toNat) ^^^ x.toNat = (b ^^^ x.toNat) ^^^ x.toNat := by rw [h2]
  rw [Nat.xor_assoc, Nat.xor_assoc, Nat.xor_self, Nat.xor_zero, Nat.xor_zero] at this
  exact this

theorem fold_inj : ∀ (r : List Int) {a b : Nat}, Byt r → a < 4294967296 → b < 4294967296 → r.foldl gg a = r.foldl gg b → a = b
  | [], _, _, _, _, _, h => h
  | x :: r, a, b, hr, ha, hb, h => by
    have hx := hr x (by simp)
    exact gg_inj ha hb hx (fold_inj r (fun y hy => hr y (by simp [hy])) (gg_lt ha hx) (gg_lt hb hx) h)

theorem xor_ne {x e : Nat} (he : e ≠ 0) : x ^^^ e ≠ x := by
  intro h
  have : x ^^^ (x ^^^ e) = x ^^^ x := by rw [h]
  rw [← Nat.xor_assoc, Nat.xor_self, Nat.zero_xor] at this
  exact he this

/-- a byte that is another makes the sum another -/
theorem sum_set {l : List Int} (hl : Byt l) {j x e : Nat} (hj : j < l.length) (hx : l.getD j 0 = (x : Int)) (hx6 : x < 256) (he : e ≠ 0) (he6 : e < 256) : sumN (l.set j ((x ^^^ e : Nat) : Int)) ≠ sumN l := by
  intro h
  unfold sumN at h
  have h : (l.set j ((x ^^^ e : Nat) : Int)).foldl gg 4294967295 = l.foldl gg 4294967295 := by
    apply xor_eq_zero'
    have e1 := congrArg (fun t => (4294967295 ^^^ l.foldl gg 4294967295) ^^^ t) h
    rw [Nat.xor_self] at e1
    rw [← e1]
    generalize (l.set j ((x ^^^ e : Nat) : Int)).foldl gg 4294967295 = A
    generalize l.foldl gg 4294967295 = B
    generalize (4294967295 : Nat) = F
    have : F ^^^ B ^^^ (F ^^^ A) = (F ^^^ F) ^^^ (A ^^^ B) := by ac_rfl
    rw [this, Nat.xor_self, Nat.zero_xor]
  have hs : l.set j ((x ^^^ e : Nat) : Int) = l.take j ++ ((x ^^^ e : Nat) : Int) :: l.drop (j + 1) := List.set_eq_take_append_cons_drop .. |>.trans (by rw [if_pos hj])
  have hq : l = l.take j ++ (x : Int) :: l.drop (j + 1) := by
    rw [← hx, ← getD_drop l j hj, List.take_append_drop]
  rw [hs] at h
  conv at h => rhs; rw [hq]
  rw [List.foldl_append, List.foldl_append, List.foldl_cons, List.foldl_cons] at h
  have hn := fold_lt (l.take j) 4294967295 (hl.take _) (by omega)
  have hxe : x ^^^ e < 256 := Nat.xor_lt_two_pow (n := 8) hx6 he6
  generalize (l.take j).foldl gg 4294967295 = n at *
  have h1 := fold_inj (l.drop (j + 1)) (hl.drop _) (gg_lt hn (by omega)) (gg_lt hn (by omega)) h
  unfold gg at h1
  rw [Int.toNat_natCast, Int.toNat_natCast] at h1
  have h2 := nib_inj (nib_lt (xor_lt hn (by omega))) (nib_lt (xor_lt hn (by omega))) h1
  have h3 := nib_inj (xor_lt hn (by omega)) (xor_lt hn (by omega)) h2
  have h4 : n ^^^ (n ^^^ (x ^^^ e)) = n ^^^ (n ^^^ x) := by rw [h3]
  rw [← Nat.xor_assoc, Nat.xor_self, Nat.zero_xor, ← Nat.xor_assoc, Nat.xor_self, Nat.zero_xor] at h4
  exact xor_ne he h4

theorem getD_set_ne' {l : List Int} {i j : Nat} {v : Int} (h : i ≠ j) : (l.set j v).getD i 0 = l.getD i 0 := by
  simp only [List.getD, List.getElem?_set]
  rw [if_neg (fun e => h e.symm)]

theorem get4_set {l : List Int} {j : Nat} {v : Int} (h : 4 ≤ j) : get4 (l.set j v) = get4 l := by
  unfold get4
  rw [getD_set_ne' (by omega), getD_set_ne' (by omega), getD_set_ne' (by omega), getD_set_ne' (by omega)]

theorem get4_change {l : List Int} (hl : Byt l) (h4 : 4 ≤ l.length) {j x e : Nat} (hj : j < 4) (hx : l.getD j 0 = (x : Int)) (he : e ≠ 0) : get4 (l.set j ((x ^^^ e : Nat) : Int)) ≠ get4 l := by
  have hne := xor_ne (x := x) he
  have hs : (l.set j ((x ^^^ e : Nat) : Int)).getD j 0 = ((x ^^^ e : Nat) : Int) := by
    have : j < l.length := by omega
    simp [List.getD, List.getElem?_set, this]
  unfold get4
  have hc : j = 0 ∨ j = 1 ∨ j = 2 ∨ j = 3 := by omega
  rcases hc with rfl | rfl | rfl | rfl
  · rw [hs, getD_set_ne' (i := 1) (by omega), getD_set_ne' (i := 2) (by omega), getD_set_ne' (i := 3) (by omega), hx, Int.toNat_natCast, Int.toNat_natCast]; omega
  · rw [hs, getD_set_ne' (i := 0) (by omega), getD_set_ne' (i := 2) (by omega), getD_set_ne' (i := 3) (by omega), hx, Int.toNat_natCast, Int.toNat_natCast]; omega
  · rw [hs, getD_set_ne' (i := 0) (by omega), getD_set_ne' (i := 1) (by omega), getD_set_ne' (i := 3) (by omega), hx, Int.toNat_natCast, Int.toNat_natCast]; omega
  · rw [hs, getD_set_ne' (i := 0) (by omega), getD_set_ne' (i := 1) (by omega), getD_set_ne' (i := 2) (by omega), hx, Int.toNat_natCast, Int.toNat_natCast]; omega

theorem frame_get (l : List Int) (h : l.length ≤ 65536) : get4 (frame l) = l.length := by
  unfold frame
  rw [List.append_assoc]; exact get_put _ (by omega) _

theorem frame_get2 {l : List Int} (hl : Byt l) : get4 ((frame l).drop 4) = sumN l := by
  have : (frame l).drop 4 = put4 (sumN l) ++ l := rfl
  rw [this]; exact get_put _ (sum_lt hl) _

theorem frame_drop (l : List Int) : (frame l).drop 8 = l := rfl

theorem next_bad {l : List Int} (hl : Byt l) (hlen : l.length ≤ 3000) {j x e : Nat} (hj4 : 4 ≤ j) (hj : j < (frame l).length) (hx : (frame l).getD j 0 = (x : Int)) (he : e ≠ 0) (he6 : e < 256) :
    nextS ((frame l).set j ((x ^^^ e : Nat) : Int)) 0 = ([], 0, 2) := by
  have hfb := frame_byt hl
  have hfl := frame_len l
  have hx6 : x < 256 := by
    have := hfb ((frame l).getD j 0) (by simp [List.getD, hj])
    omega
  unfold nextS
  rw [if_neg (by simp)]
  dsimp only
  rw [show (0 : Int).toNat = 0 from rfl, List.drop_zero, if_neg (by simp [hfl]), get4_set hj4, frame_get l (by omega), if_neg (by omega)]
  rw [if_neg (by simp [hfl])]
  rw [if_pos]
  by_cases h8 : j < 8
  · have e1 : ((frame l).set j ((x ^^^ e : Nat) : Int)).drop 8 = l := by
      rw [List.drop_set_of_lt h8]; exact frame_drop l
    have e2 : ((frame l).set j ((x ^^^ e : Nat) : Int)).drop 4 = ((frame l).drop 4).set (j - 4) ((x ^^^ e : Nat) : Int) := by
      rw [List.drop_set, if_neg (by omega)]
    rw [e1, e2, List.take_of_length_le (Nat.le_refl _), ← frame_get2 hl]
    refine (get4_change (hfb.drop 4) (by simp [hfl]; omega) (by omega) ?_ he).symm
    rw [← hx]
    simp only [List.getD, List.getElem?_drop]
    rw [show 4 + (j - 4) = j by omega]
  · have e1 : ((frame l).set j ((x ^^^ e : Nat) : Int)).drop 8 = l.set (j - 8) ((x ^^^ e : Nat) : Int) := by
      rw [List.drop_set, if_neg (by omega), frame_drop]
    have e2 : get4 (((frame l).set j ((x ^^^ e : Nat) : Int)).drop 4) = sumN l := by
      rw [List.drop_set, if_neg (by omega), get4_set (by omega), frame_get2 hl]
    rw [e1, e2, List.take_of_length_le (by simp)]
    refine sum_set hl (by omega) ?_ hx6 he he6
    rw [← hx]
    have : (frame l).getD j 0 = ((frame l).drop 8).getD (j - 8) 0 := by
      simp only [List.getD, List.getElem?_drop]
      rw [show 8 + (j - 8) = j by omega]
    rw [this, frame_drop]

theorem F3_eq (q : Nat) (l : List Int) (bit : Int) (hl : Byt l) : F3 (q + 3201) l bit = some ((true, ()), ()) := by
  rw [F3_step, show F14 (q + 3200) = _ from F14_eq (q + 3100)]
  simp only [bd_s, br_false, Bool.not_true]
  by_cases h : l.length ≤ 3000
  · have hfl := frame_len l
    have hfb := frame_byt hl
    rw [br_f (decide_eq_false (by omega)), F15_eq (q + 3200) l hl (by omega) (by omega), bd_s]
    dsimp only
    rw [IntWalk.i64_in ((8 : Int) + (l.length : Int)) ⟨by omega, by omega⟩, IntWalk.i64_in ((8 : Int) * ((frame l).length : Int)) ⟨by omega, by omega⟩]
    have e1 : (((frame l).length : Int) != 8 + (l.length : Int)) = false := by simp only [bne_eq_false_iff_eq]; omega
    rw [br_f (by rw [e1]; rfl)]
    by_cases hb : bit < 32 ∨ bit ≥ 8 * ((frame l).length : Int)
    · rw [br_t]
      by_cases h1 : bit < 32
      · rw [decide_eq_true h1]; rfl
      · rw [decide_eq_false h1]; exact decide_eq_true (by omega)
    · rw [br_f (by rw [decide_eq_false (by omega)]; exact decide_eq_false (by omega))]
      obtain ⟨b, rfl⟩ : ∃ n : Nat, bit = (n : Int) := ⟨bit.toNat, by omega⟩
      have hq : IntKind.i64.wrap (Int.tdiv (b : Int) 8) = ((b / 8 : Nat) : Int) := by
        rw [IntWalk.i64_quo _ _ ⟨by omega, by omega, by omega⟩]; omega
      have hr : IntKind.u64.wrap (Int.tmod (b : Int) 8) = ((b % 8 : Nat) : Int) := by
        rw [Int.tmod_eq_emod_of_nonneg (by omega), IntWalk.u64_in _ ⟨by omega, by omega⟩]; omega
      rw [hq, hr, br_t (inB_t ⟨by omega, by omega⟩), br_t (decide_eq_true (by omega)), br_t (inB_t ⟨by omega, by omega⟩), Int.toNat_natCast, Int.toNat_natCast]
      have hj : b / 8 < (frame l).length := by omega
      have hxx : ∃ x : Nat, (frame l).getD (b / 8) 0 = (x : Int) ∧ x < 256 := by
        have := hfb ((frame l).getD (b / 8) 0) (by simp [List.getD, hj])
        exact ⟨((frame l).getD (b / 8) 0).toNat, by omega, by omega⟩
      obtain ⟨x, hx, hx6⟩ := hxx
      have hp : 2 ^ (b % 8) ≤ 2 ^ 7 := Nat.pow_le_pow_right (by omega) (by omega)
      have hp0 := Nat.two_pow_pos (b % 8)
      have he : IntKind.u8.wrap ((1 : Int) * ((2 : Int) ^ (Min.min (b % 8) 8))) = ((2 ^ (b % 8) : Nat) : Int) := by
        rw [show min (b % 8) 8 = b % 8 by omega, show ((2 : Int) ^ (b % 8)) = ((2 ^ (b % 8) : Nat) : Int) by simp, Int.one_mul, IntWalk.u8_in _ ⟨by omega, by omega⟩]
      rw [hx, he, xor8 x _ hx6 (by omega)]
      have hb' : Byt ((frame l).set (b / 8) ((x ^^^ 2 ^ (b % 8) : Nat) : Int)) := by
        intro y hy
        rcases List.mem_or_eq_of_mem_set hy with h1 | h1
        · exact hfb y h1
        · have : x ^^^ 2 ^ (b % 8) < 256 := Nat.xor_lt_two_pow (n := 8) hx6 (by omega)
          omega
      rw [F16_eq (q + 3200) _ 0 hb' (by simp; omega) (by simp; omega), next_bad hl h (by omega) hj hx (by omega) (by omega), bd_s]
      rfl
  · rw [br_t (decide_eq_true (by omega))]

end Go.Proofs.Ytnffdeokhcojfaa.E
