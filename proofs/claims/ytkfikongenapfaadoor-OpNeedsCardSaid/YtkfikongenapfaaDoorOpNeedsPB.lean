/- The forms of the functions, and plain laws on what they come to. No condition. -/
import Derived.Test.YtkfikongenapfaaDoorOpNeedsPA
import Derived.Test.YtkfikongenapfaaDoorProg
import Derived.KernelRfl
import Derived.IntWalk

namespace Go.Proofs.YtkfikongenapfaaDoor.E
open Go
set_option linter.unusedVariables false
set_option maxRecDepth 100000
noncomputable def F_law05alive (k : Nat)  : Option (((Bool) × (Unit)) × (Unit)) := fnE E0 k 24 ()

noncomputable def F_law05OpNeeds (k : Nat) (a0 : TOp) : Option (((Bool) × (Unit)) × (Unit)) := fnE E0 k 7 (a0, ())

theorem F_law05alive_step (k : Nat)  : F_law05alive (k + 1)  =
  (bd (F_law05fold k ) (fun (r : ((TOp) × (Unit)) × (Unit)) => (bd (F_opEncode k r.1.1) (fun (r1 : (Cur) × (Unit)) => (bd (F_opDecode k ((6 : Int) :: ((1 : Int) :: ((2 : Int) :: ((3 : Int) :: ((0 : Int) :: ((1 : Int) :: ((1 : Int) :: ([] : List (Int)))))))))) (fun (r2 : ((TOp) × ((Bool) × (Unit))) × (Unit)) => (bd (F_law05fold k ) (fun (r3 : ((TOp) × (Unit)) × (Unit)) => (bd (F_opNeeds k r3.1.1) (fun (r4 : ((List (TId)) × (Unit)) × (Unit)) => (br (boolEq r1.1.2.1 true)
        (br (boolEq (cond true r2.1.2.1 false) true)
         (bd (F_ref00SameBytes k r1.1.1 ((6 : Int) :: ((1 : Int) :: ((2 : Int) :: ((3 : Int) :: ((0 : Int) :: ((1 : Int) :: ((1 : Int) :: ([] : List (Int)))))))))) (fun (r5 : ((Bool) × (Unit)) × (Unit)) => (br (boolEq (cond true r5.1.1 false) true)
            (bd (F_law05fold k ) (fun (r6 : ((TOp) × (Unit)) × (Unit)) => (bd (F_ref00SameOp k r2.1.1 r6.1.1) (fun (r7 : ((Bool) × (Unit)) × (Unit)) => (br (boolEq (cond true r7.1.1 false) true)
               (br (boolEq (cond true ((((List.length r4.1.1) : Nat) : Int) == (1 : Int)) false) true)
                (br (inB (0 : Int) (List.length r4.1.1))
                 (br (boolEq (cond true (denEq (.pair (.int .i64) (.pair (.int .i64) .unit)) (List.getD r4.1.1 (0 : Nat) ((0 : Int), ((0 : Int), ()))) ((0 : Int), ((1 : Int), ()))) false) true)
                   (bd (F_opRight k zOp) (fun (r8 : ((Bool) × (Unit)) × (Unit)) => (br (boolEq (cond true (!r8.1.1) false) true)
                      (bd (F_law05fold k ) (fun (r9 : ((TOp) × (Unit)) × (Unit)) => (bd (F_opSame k r2.1.1 r9.1.1) (fun (r10 : ((Bool) × (Unit)) × (Unit)) => (some ((r10.1.1, ()), ()))))))
                      (some ((false, ()), ())))))
                   (some ((false, ()), ())))
                 none)
                (some ((false, ()), ())))
               (some ((false, ()), ())))))))
            (some ((false, ()), ())))))
         (some ((false, ()), ())))
        (some ((false, ()), ()))))))))))))) :=
 (show F_law05alive (k + 1)  =
  (bd (F_law05fold k ) (fun (r : ((TOp) × (Unit)) × (Unit)) => (bd (F_opEncode k r.1.1) (fun (r1 : (Cur) × (Unit)) => (bd (F_opDecode k ((6 : Int) :: ((1 : Int) :: ((2 : Int) :: ((3 : Int) :: ((0 : Int) :: ((1 : Int) :: ((1 : Int) :: ([] : List (Int)))))))))) (fun (r2 : ((TOp) × ((Bool) × (Unit))) × (Unit)) => (bd (F_law05fold k ) (fun (r3 : ((TOp) × (Unit)) × (Unit)) => (bd (F_opNeeds k r3.1.1) (fun (r4 : ((List (TId)) × (Unit)) × (Unit)) => (br (boolEq r1.1.2.1 true)
        (br (boolEq (cond true r2.1.2.1 false) true)
         (bd (F_ref00SameBytes k r1.1.1 ((6 : Int) :: ((1 : Int) :: ((2 : Int) :: ((3 : Int) :: ((0 : Int) :: ((1 : Int) :: ((1 : Int) :: ([] : List (Int)))))))))) (fun (r5 : ((Bool) × (Unit)) × (Unit)) => (both
           (br (boolEq (cond true r5.1.1 false) true)
            (bd (F_law05fold k ) (fun (r6 : ((TOp) × (Unit)) × (Unit)) => (bd (F_ref00SameOp k r2.1.1 r6.1.1) (fun (r7 : ((Bool) × (Unit)) × (Unit)) => (br (boolEq (cond true r7.1.1 false) true)
               (br (boolEq (cond true ((((List.length r4.1.1) : Nat) : Int) == (1 : Int)) false) true)
                (br (inB (0 : Int) (List.length r4.1.1))
                 (both
                  (br (boolEq (cond true (denEq (.pair (.int .i64) (.pair (.int .i64) .unit)) (List.getD r4.1.1 (0 : Nat) ((0 : Int), ((0 : Int), ()))) ((0 : Int), ((1 : Int), ()))) false) true)
                   (bd (F_opRight k zOp) (fun (r8 : ((Bool) × (Unit)) × (Unit)) => (both
                     (br (boolEq (cond true (!r8.1.1) false) true)
                      (bd (F_law05fold k ) (fun (r9 : ((TOp) × (Unit)) × (Unit)) => (bd (F_opSame k r2.1.1 r9.1.1) (fun (r10 : ((Bool) × (Unit)) × (Unit)) => (some ((r10.1.1, ()), ()))))))
                      (some ((false, ()), ())))
                     (br (boolEq (cond true (!r8.1.1) false) true)
                      (bd (F_law05fold k ) (fun (r9 : ((TOp) × (Unit)) × (Unit)) => (bd (F_opSame k r2.1.1 r9.1.1) (fun (r10 : ((Bool) × (Unit)) × (Unit)) => (some ((r10.1.1, ()), ()))))))
                      (some ((false, ()), ()))))))
                   (both
                    (some ((false, ()), ()))
                    (some ((false, ()), ()))))
                  (br (boolEq (cond true (denEq (.pair (.int .i64) (.pair (.int .i64) .unit)) (List.getD r4.1.1 (0 : Nat) ((0 : Int), ((0 : Int), ()))) ((0 : Int), ((1 : Int), ()))) false) true)
                   (bd (F_opRight k zOp) (fun (r8 : ((Bool) × (Unit)) × (Unit)) => (both
                     (br (boolEq (cond true (!r8.1.1) false) true)
                      (bd (F_law05fold k ) (fun (r9 : ((TOp) × (Unit)) × (Unit)) => (bd (F_opSame k r2.1.1 r9.1.1) (fun (r10 : ((Bool) × (Unit)) × (Unit)) => (some ((r10.1.1, ()), ()))))))
                      (some ((false, ()), ())))
                     (br (boolEq (cond true (!r8.1.1) false) true)
                      (bd (F_law05fold k ) (fun (r9 : ((TOp) × (Unit)) × (Unit)) => (bd (F_opSame k r2.1.1 r9.1.1) (fun (r10 : ((Bool) × (Unit)) × (Unit)) => (some ((r10.1.1, ()), ()))))))
                      (some ((false, ()), ()))))))
                   (both
                    (some ((false, ()), ()))
                    (some ((false, ()), ())))))
                 none)
                (both
                 (both
                  (some ((false, ()), ()))
                  (some ((false, ()), ())))
                 (both
                  (some ((false, ()), ()))
                  (some ((false, ()), ())))))
               (both
                (both
                 (some ((false, ()), ()))
                 (some ((false, ()), ())))
                (both
                 (some ((false, ()), ()))
                 (some ((false, ()), ())))))))))
            (both
             (both
              (some ((false, ()), ()))
              (some ((false, ()), ())))
             (both
              (some ((false, ()), ()))
              (some ((false, ()), ())))))
           (br (boolEq (cond true r5.1.1 false) true)
            (bd (F_law05fold k ) (fun (r6 : ((TOp) × (Unit)) × (Unit)) => (bd (F_ref00SameOp k r2.1.1 r6.1.1) (fun (r7 : ((Bool) × (Unit)) × (Unit)) => (br (boolEq (cond true r7.1.1 false) true)
               (br (boolEq (cond true ((((List.length r4.1.1) : Nat) : Int) == (1 : Int)) false) true)
                (br (inB (0 : Int) (List.length r4.1.1))
                 (both
                  (br (boolEq (cond true (denEq (.pair (.int .i64) (.pair (.int .i64) .unit)) (List.getD r4.1.1 (0 : Nat) ((0 : Int), ((0 : Int), ()))) ((0 : Int), ((1 : Int), ()))) false) true)
                   (bd (F_opRight k zOp) (fun (r8 : ((Bool) × (Unit)) × (Unit)) => (both
                     (br (boolEq (cond true (!r8.1.1) false) true)
                      (bd (F_law05fold k ) (fun (r9 : ((TOp) × (Unit)) × (Unit)) => (bd (F_opSame k r2.1.1 r9.1.1) (fun (r10 : ((Bool) × (Unit)) × (Unit)) => (some ((r10.1.1, ()), ()))))))
                      (some ((false, ()), ())))
                     (br (boolEq (cond true (!r8.1.1) false) true)
                      (bd (F_law05fold k ) (fun (r9 : ((TOp) × (Unit)) × (Unit)) => (bd (F_opSame k r2.1.1 r9.1.1) (fun (r10 : ((Bool) × (Unit)) × (Unit)) => (some ((r10.1.1, ()), ()))))))
                      (some ((false, ()), ()))))))
                   (both
                    (some ((false, ()), ()))
                    (some ((false, ()), ()))))
                  (br (boolEq (cond true (denEq (.pair (.int .i64) (.pair (.int .i64) .unit)) (List.getD r4.1.1 (0 : Nat) ((0 : Int), ((0 : Int), ()))) ((0 : Int), ((1 : Int), ()))) false) true)
                   (bd (F_opRight k zOp) (fun (r8 : ((Bool) × (Unit)) × (Unit)) => (both
                     (br (boolEq (cond true (!r8.1.1) false) true)
                      (bd (F_law05fold k ) (fun (r9 : ((TOp) × (Unit)) × (Unit)) => (bd (F_opSame k r2.1.1 r9.1.1) (fun (r10 : ((Bool) × (Unit)) × (Unit)) => (some ((r10.1.1, ()), ()))))))
                      (some ((false, ()), ())))
                     (br (boolEq (cond true (!r8.1.1) false) true)
                      (bd (F_law05fold k ) (fun (r9 : ((TOp) × (Unit)) × (Unit)) => (bd (F_opSame k r2.1.1 r9.1.1) (fun (r10 : ((Bool) × (Unit)) × (Unit)) => (some ((r10.1.1, ()), ()))))))
                      (some ((false, ()), ()))))))
                   (both
                    (some ((false, ()), ()))
                    (some ((false, ()), ())))))
                 none)
                (both
                 (both
                  (some ((false, ()), ()))
                  (some ((false, ()), ())))
                 (both
                  (some ((false, ()), ()))
                  (some ((false, ()), ())))))
               (both
                (both
                 (some ((false, ()), ()))
                 (some ((false, ()), ())))
                (both
                 (some ((false, ()), ()))
                 (some ((false, ()), ())))))))))
            (both
             (both
              (some ((false, ()), ()))
              (some ((false, ()), ())))
             (both
              (some ((false, ()), ()))
              (some ((false, ()), ()))))))))
         (both
          (both
           (both
            (some ((false, ()), ()))
            (some ((false, ()), ())))
           (both
            (some ((false, ()), ()))
            (some ((false, ()), ()))))
          (both
           (both
            (some ((false, ()), ()))
            (some ((false, ()), ())))
           (both
            (some ((false, ()), ()))
            (some ((false, ()), ()))))))
        (both
         (both
          (both
           (some ((false, ()), ()))
           (some ((false, ()), ())))
          (both
           (some ((false, ()), ()))
           (some ((false, ()), ()))))
         (both
          (both
           (some ((false, ()), ()))
           (some ((false, ()), ())))
          (both
           (some ((false, ()), ()))
           (some ((false, ()), ())))))))))))))))) by kernel_rfl).trans (by simp only [both_self])

noncomputable def L_law05OpNeeds_0 (k : Nat) (s0 : List (TId)) : Nat → (Bool) × ((Int) × (Unit)) → Option (LO ((Bool) × (Unit)) ((Bool) × ((Int) × (Unit))) (Unit)) :=
  loopF true 0 82 8000000 7 cut8000000_7_0 (s0, ()) (fun σ K => bodyAt E0 (fnE E0 k) (inl5 E0 (fnE E0 k) k) 7 (rvOf 7) k (codeOf 7 0) _ σ K)

noncomputable def L_law05OpNeeds_2 (k : Nat) (s0 : List (TId)) (s1 : Int) : Nat → (Bool) × ((Int) × (Unit)) → Option (LO ((Bool) × (Unit)) ((Bool) × ((Int) × (Unit))) (Unit)) :=
  loopF true 2 82 8000000 7 cut8000000_7_2 (s0, s1, ()) (fun σ K => bodyAt E0 (fnE E0 k) (inl5 E0 (fnE E0 k) k) 7 (rvOf 7) k (codeOf 7 2) _ σ K)

theorem L_law05OpNeeds_0_step (k m : Nat) (s0 : List (TId)) (x0 : Bool) (x1 : Int) : L_law05OpNeeds_0 k s0 (m + 1) (x0, x1, ()) =
  (br (decide (x1 < (((List.length s0) : Nat) : Int)))
   (br (inB x1 (List.length s0))
    (br (decide ((List.getD s0 (Int.toNat x1) ((0 : Int), ((0 : Int), ()))).2.1 < (1 : Int)))
     (some (.ret (false, ()) ()))
     (br (inB x1 (List.length s0))
      (br (cond false true (decide ((List.getD s0 (Int.toNat x1) ((0 : Int), ((0 : Int), ()))).2.1 > (1048576 : Int))))
       (some (.ret (false, ()) ()))
       (br (inB x1 (List.length s0))
        (br (cond false true (decide ((List.getD s0 (Int.toNat x1) ((0 : Int), ((0 : Int), ()))).1 < (0 : Int))))
         (some (.ret (false, ()) ()))
         (br (inB x1 (List.length s0))
          (br (cond false true (decide ((List.getD s0 (Int.toNat x1) ((0 : Int), ((0 : Int), ()))).1 ≥ (16 : Int))))
           (some (.ret (false, ()) ()))
           (bdL (L_law05OpNeeds_2 k s0 x1 k (x0, ((0 : Int), ())))
            (fun (b : (Bool) × ((Int) × (Unit))) => (L_law05OpNeeds_0 k s0 m (b.1, ((IntKind.wrap (IntKind.i64) (x1 + (1 : Int))), ()))))
            (fun (j : Nat) => (fun (b : (Bool) × ((Int) × (Unit))) => (br (Nat.beq j (1 : Nat))
             (L_law05OpNeeds_0 k s0 m (b.1, ((IntKind.wrap (IntKind.i64) (x1 + (1 : Int))), ())))
             (br (Nat.beq j (0 : Nat))
              (some (.brk (b.1, (x1, ()))))
              (some (.ext j (b.1, (x1, ()))))))))
            (fun (q : (Bool) × (Unit)) => (fun (b : Unit) => (some (.ret q ()))))))
          none))
        none))
      none))
    none)
   (some (.brk (x0, (x1, ()))))) := by kernel_rfl

theorem L_law05OpNeeds_2_step (k m : Nat) (s0 : List (TId)) (s1 : Int) (x0 : Bool) (x1 : Int) : L_law05OpNeeds_2 k s0 s1 (m + 1) (x0, x1, ()) =
  (br (decide (x1 < s1))
   (br (inB x1 (List.length s0))
    (br (inB s1 (List.length s0))
     (br (denEq (.pair (.int .i64) (.pair (.int .i64) .unit)) (List.getD s0 (Int.toNat x1) ((0 : Int), ((0 : Int), ()))) (List.getD s0 (Int.toNat s1) ((0 : Int), ((0 : Int), ()))))
       (some (.ret (false, ()) ()))
       (L_law05OpNeeds_2 k s0 s1 m (x0, ((IntKind.wrap (IntKind.i64) (x1 + (1 : Int))), ()))))
     none)
    none)
   (some (.brk (x0, (x1, ()))))) :=
 (show L_law05OpNeeds_2 k s0 s1 (m + 1) (x0, x1, ()) =
  (br (decide (x1 < s1))
   (br (inB x1 (List.length s0))
    (br (inB s1 (List.length s0))
     (both
      (br (denEq (.pair (.int .i64) (.pair (.int .i64) .unit)) (List.getD s0 (Int.toNat x1) ((0 : Int), ((0 : Int), ()))) (List.getD s0 (Int.toNat s1) ((0 : Int), ((0 : Int), ()))))
       (some (.ret (false, ()) ()))
       (L_law05OpNeeds_2 k s0 s1 m (x0, ((IntKind.wrap (IntKind.i64) (x1 + (1 : Int))), ()))))
      (br (denEq (.pair (.int .i64) (.pair (.int .i64) .unit)) (List.getD s0 (Int.toNat x1) ((0 : Int), ((0 : Int), ()))) (List.getD s0 (Int.toNat s1) ((0 : Int), ((0 : Int), ()))))
       (some (.ret (false, ()) ()))
       (L_law05OpNeeds_2 k s0 s1 m (x0, ((IntKind.wrap (IntKind.i64) (x1 + (1 : Int))), ())))))
     none)
    none)
   (some (.brk (x0, (x1, ()))))) by kernel_rfl).trans (by simp only [both_self])

theorem F_law05OpNeeds_step (k : Nat) (a0 : TOp) : F_law05OpNeeds (k + 1) a0 =
  (bd (F_law05alive k ) (fun (r : ((Bool) × (Unit)) × (Unit)) => (br (!r.1.1)
    (some ((false, ()), ()))
    (bd (F_ref00Long k (a0 :: ([] : List (TOp))) (1 : Int)) (fun (r1 : ((Bool) × (Unit)) × (Unit)) => (br r1.1.1
      (some ((true, ()), ()))
      (bd (F_opRight k a0) (fun (r2 : ((Bool) × (Unit)) × (Unit)) => (br (cond false true (!r2.1.1))
        (some ((true, ()), ()))
        (bd (F_opNeeds k a0) (fun (r3 : ((List (TId)) × (Unit)) × (Unit)) => (bdL (L_law05OpNeeds_0 k r3.1.1 k (false, ((0 : Int), ())))
          (fun (b : (Bool) × ((Int) × (Unit))) => (bd (F_opClone k a0) (fun (r4 : ((TOp) × (Unit)) × (Unit)) => (bd (F_opNeeds k r4.1.1) (fun (r5 : ((List (TId)) × (Unit)) × (Unit)) => (bd (F_ref00SameIds k r5.1.1 r3.1.1) (fun (r6 : ((Bool) × (Unit)) × (Unit)) => (some (((cond r6.1.1 (decide ((((List.length r3.1.1) : Nat) : Int) ≤ (IntKind.wrap (IntKind.i64) ((5 : Int) + (((List.length a0.2.2.2.2.2.2.2.2.2.2.1) : Nat) : Int))))) false), ()), ())))))))))
          (fun (j : Nat) => (fun (b : (Bool) × ((Int) × (Unit))) => none))
          (fun (q : (Bool) × (Unit)) => (fun (b : Unit) => (some (q, ())))))))))))))))) := by kernel_rfl

end Go.Proofs.YtkfikongenapfaaDoor.E

namespace Go.Proofs.YtkfikongenapfaaDoor.E
open Go
set_option linter.unusedSimpArgs false
set_option linter.unusedVariables false
theorem dec_fold : dec [6, 1, 2, 3, 0, 1, 1] = (foldOp, (true, ())) := by rw [← fold_enc]; exact dec_enc fold_right

theorem F_law05alive_eq (k : Nat) : F_law05alive (k + 1300) = some ((true, ()), ()) := by
  rw [F_law05alive_step, F_law05fold_eq]
  simp only [bd_s]
  rw [F_opEncode_eq, F_opDecode_eq _ _ (by intro x hx; simp at hx; omega) (by simp), dec_fold]
  simp only [bd_s]
  rw [F_opNeeds_eq _ _ (by decide), fold_needs, fold_right, fold_enc]
  simp only [bd_s, if_true, boolEq, br_true, Bool.cond_true]
  rw [F_ref00SameBytes_eq _ _ _ (by simp <;> omega) (by simp)]
  simp only [bd_s]
  rw [F_ref00SameOp_eq _ _ _ (fun _ => ⟨by show 0 < _; omega, by decide⟩)]
  simp only [bd_s]
  rw [F_opRight_eq, zero_right]
  simp only [bd_s]
  rw [F_opSame_eq _ _ _ (fun _ => ⟨by show 0 < _; omega, by decide⟩)]
  simp [inB]

theorem long_small {o : TOp} (h : longOp o = false) : smallOp o ∧ o.2.2.2.2.2.2.2.2.2.2.1.length ≤ 40 := by
  simp only [longOp, Bool.or_eq_false_iff, decide_eq_false_iff_not] at h
  refine ⟨⟨?_, ?_, ?_⟩, ?_⟩ <;> omega

/-! OpNeeds -/
theorem needs_mem {l : List TId} : ∀ {out : List TId} {i : TId}, i ∈ l.foldl addId out → i ∈ out ∨ (i ∈ l ∧ i.2.1 ≠ 0) := by
  induction l with
  | nil => intro out i h; exact .inl h
  | cons x l ih =>
    intro out i h
    rcases ih (out := addId out x) h with h | h
    · unfold addId at h
      split at h
      · rename_i hx
        rcases List.mem_append.1 h with h | h
        · exact .inl h
        · simp at h; subst h; exact .inr ⟨by simp, hx.1⟩
      · exact .inl h
    · exact .inr ⟨by simp [h.1], h.2⟩

theorem needs_nodup {l : List TId} : ∀ {out : List TId}, out.Nodup → (l.foldl addId out).Nodup := by
  induction l with
  | nil => intro out h; exact h
  | cons x l ih =>
    intro out h
    refine ih (out := addId out x) ?_
    unfold addId
    split
    · rename_i hx
      rw [List.nodup_append]
      exact ⟨h, by simp, fun a ha b hb => by simp at hb; subst hb; intro e; subst e; exact hx.2 ha⟩
    · exact h

theorem needs_len {l : List TId} : ∀ {out : List TId}, (l.foldl addId out).length ≤ out.length + l.length := by
  induction l with
  | nil => intro out; simp
  | cons x l ih =>
    intro out
    have h1 := ih (out := addId out x)
    have h2 := addId_len out x
    simp only [List.foldl_cons, List.length_cons]; omega

theorem all_right {o : TOp} (h : right o = true) {i : TId} (hi : i ∈ allIds o) : i.2.1 = 0 ∨ rightOp i = true := by
  unfold right at h
  simp only [Bool.and_eq_true, decide_eq_true_eq] at h
  obtain ⟨⟨_, ha⟩, ho⟩ := h
  obtain ⟨kd, id, t, blk, par, key, seg, lf, rt, tx, cu, fl, u⟩ := o
  unfold own at ho
  have hblk : ∀ i : TId, rightBlock i = true → i.2.1 = 0 ∨ rightOp i = true := by
    intro i hi
    simp only [rightBlock, Bool.or_eq_true, decide_eq_true_eq] at hi
    rcases hi with (rfl | rfl) | h
    · exact .inl rfl
    · exact .inl rfl
    · exact .inr h
  have hch : ∀ c : TChar, rightChar c = true → c.1.2.1 = 0 ∨ rightOp c.1 = true := by
    intro c hc
    simp only [rightChar, Bool.or_eq_true, Bool.and_eq_true, decide_eq_true_eq] at hc
    rcases hc with rfl | h
    · exact .inl rfl
    · exact .inr h.1.1
  have hcu : ∀ (l : List TCut), l.all rightCut = true → ∀ c ∈ l, rightOp c.1 = true := by
    intro l hl c hc
    have := List.all_eq_true.1 hl c hc
    simp only [rightCut, Bool.and_eq_true] at this
    exact this.1.1.1
  simp only [allIds, List.cons_append, List.nil_append, List.mem_cons, List.mem_map] at hi
  simp only at ho ha
  rcases parts_cases kd with ⟨_, hp⟩ | ⟨_, hp⟩ | ⟨_, hp⟩ | ⟨_, hp⟩ | ⟨_, hp⟩ | ⟨_, hp⟩ | hp <;> rw [hp] at ho ha <;>
    simp only [List.foldl_cons, List.foldl_nil, bare, partCopy, partRight, List.all_cons, List.all_nil, Bool.and_true, Bool.and_eq_true, Prod.mk.injEq, if_true, if_false, Nat.reduceEqDiff, reduceIte, reduceCtorEq, Int.reduceEq, true_and, and_true] at ho ha
  · obtain ⟨rfl, rfl, rfl, rfl, _, rfl, _⟩ := ho
    rcases hi with rfl | rfl | rfl | rfl | rfl | ⟨c, hc, rfl⟩
    · exact .inl rfl
    · exact hblk _ ha.1
    · exact .inl rfl
    · exact .inl rfl
    · exact .inl rfl
    · simp at hc
  · obtain ⟨rfl, rfl, rfl, _, rfl, _⟩ := ho
    rcases hi with rfl | rfl | rfl | rfl | rfl | ⟨c, hc, rfl⟩
    · exact .inr ha.1
    · exact hblk _ ha.2.1
    · exact .inl rfl
    · exact .inl rfl
    · exact .inl rfl
    · simp at hc
  · obtain ⟨rfl, rfl, _, rfl, _⟩ := ho
    rcases hi with rfl | rfl | rfl | rfl | rfl | ⟨c, hc, rfl⟩
    · exact .inl rfl
    · exact .inl rfl
    · exact .inr ha.1.1.1
    · exact hch _ ha.1.1.2
    · exact hch _ ha.1.2
    · simp at hc
  · obtain ⟨rfl, rfl, _, rfl, rfl, rfl, _⟩ := ho
    rcases hi with rfl | rfl | rfl | rfl | rfl | ⟨c, hc, rfl⟩
    · exact .inl rfl
    · exact .inl rfl
    · exact .inl rfl
    · exact .inl rfl
    · exact .inl rfl
    · exact .inr (hcu _ ha.2 c hc)
  · obtain ⟨rfl, _, rfl, _⟩ := ho
    rcases hi with rfl | rfl | rfl | rfl | rfl | ⟨c, hc, rfl⟩
    · exact .inl rfl
    · exact hblk _ ha.2.1
    · exact .inr ha.1.1.1
    · exact hch _ ha.1.1.2
    · exact hch _ ha.1.2
    · simp at hc
  · obtain ⟨rfl, _, rfl, rfl, rfl, _, rfl, _⟩ := ho
    rcases hi with rfl | rfl | rfl | rfl | rfl | ⟨c, hc, rfl⟩
    · exact .inr ha
    · exact .inl rfl
    · exact .inl rfl
    · exact .inl rfl
    · exact .inl rfl
    · simp at hc
  · obtain ⟨rfl, rfl, _, rfl, rfl, rfl, _, rfl, _⟩ := ho
    rcases hi with rfl | rfl | rfl | rfl | rfl | ⟨c, hc, rfl⟩
    · exact .inl rfl
    · exact .inl rfl
    · exact .inl rfl
    · exact .inl rfl
    · exact .inl rfl
    · simp at hc

theorem needs_inner (k : Nat) (l : List TId) (hn : l.Nodup) (i : Nat) (hi : i < l.length) (hl : l.length ≤ 1000) : ∀ (m j : Nat), j ≤ i → i - j < m → L_law05OpNeeds_2 k l (i : Int) m (false, ((j : Int), ())) = some (.brk (false, ((i : Int), ())))
  | 0, j, _, h => by omega
  | m + 1, j, h1, h2 => by
    rw [L_law05OpNeeds_2_step]
    by_cases h : j < i
    · rw [br_t (i_lt h), br_t (i_in (by omega)), br_t (i_in hi), getD_of (by omega), getD_of hi, i_nx (by omega)]
      simp only [eqI]
      have hne : l[j]'(by omega) ≠ l[i] := fun e => by
        have := (List.getElem_inj hn).1 e
        omega
      rw [br_f (by simp [hne])]
      exact needs_inner k l hn i hi hl m (j + 1) (by omega) (by omega)
    · have : j = i := by omega
      subst this
      rw [br_f (i_ge _)]

theorem needs_outer (k : Nat) (l : List TId) (hn : l.Nodup) (hr : ∀ i ∈ l, rightOp i = true) (hl : l.length ≤ 100) : ∀ (m i : Nat), i ≤ l.length → l.length - i < m → L_law05OpNeeds_0 (k + 200) l m (false, ((i : Int), ())) = some (.brk (false, ((l.length : Int), ())))
  | 0, i, _, h => by omega
  | m + 1, i, h1, h2 => by
    rw [L_law05OpNeeds_0_step]
    by_cases h : i < l.length
    · have hri := hr l[i] (List.getElem_mem h)
      simp [rightOp] at hri
      rw [br_t (i_lt h), br_t (i_in h), br_t (i_in h), br_t (i_in h), br_t (i_in h), getD_of h, i_nx (by omega)]
      rw [br_f (by simp; omega), br_f (by simp; omega), br_f (by simp; omega), br_f (by simp; omega)]
      have := needs_inner (k + 200) l hn i h (by omega) (k + 200) 0 (by omega) (by omega)
      rw [show ((0 : Nat) : Int) = 0 from rfl] at this
      rw [this]
      simp only [bdL_b]
      exact needs_outer k l hn hr hl m (i + 1) (by omega) (by omega)
    · have : i = l.length := by omega
      subst this
      rw [br_f (i_ge _)]

theorem F_law05OpNeeds_eq (k : Nat) (o : TOp) : F_law05OpNeeds (k + 2000) o = some ((true, ()), ()) := by
  rw [F_law05OpNeeds_step, F_law05alive_eq]
  simp only [bd_s]
  rw [br_f (by rfl), F_ref00Long_eq _ _ _ (fun _ => ⟨by simp, by simp⟩)]
  simp only [bd_s]
  cases hl : longOp o with
  | true => rw [br_t (by simp [hl])]
  | false =>
    obtain ⟨hs, hc⟩ := long_small hl
    rw [br_f (by simp [hl]), F_opRight_eq]
    simp only [bd_s]
    cases hr : right o with
    | false => rw [br_t (by rfl)]
    | true =>
      rw [br_f (by rfl), F_opNeeds_eq _ _ hc]
      simp only [bd_s]
      have hlen : (needs o).length ≤ 5 + o.2.2.2.2.2.2.2.2.2.2.1.length := by
        have := needs_len (l := allIds o) (out := [])
        simp [allIds] at this
        unfold needs allIds; simp; omega
      have hnd : (needs o).Nodup := needs_nodup List.nodup_nil
      have hrr : ∀ i ∈ needs o, rightOp i = true := fun i hi => by
        rcases needs_mem hi with h | ⟨h, h0⟩
        · simp at h
        · exact (all_right hr h).resolve_left h0
      have := needs_outer (k + 1799) (needs o) hnd hrr (by omega) (k + 1999) 0 (by omega) (by omega)
      rw [show k + 1799 + 200 = k + 1999 from rfl, show ((0 : Nat) : Int) = 0 from rfl] at this
      rw [this]
      simp only [bdL_b]
      rw [F_opClone_eq _ _ (by omega)]
      simp only [bd_s]
      rw [F_opNeeds_eq _ _ hc]
      simp only [bd_s]
      rw [F_ref00SameIds_eq _ _ _ (fun _ => ⟨by omega, by omega⟩)]
      simp only [bd_s]
      rw [IntWalk.i64_in _ ⟨by omega, by omega⟩]
      have : decide (((needs o).length : Int) ≤ 5 + ((o.2.2.2.2.2.2.2.2.2.2.1.length : Nat) : Int)) = true := by simp; omega
      rw [this]; simp

end Go.Proofs.YtkfikongenapfaaDoor.E

namespace Go.Proofs.YtkfikongenapfaaDoor.E
open Go Go.Proofs
theorem prim_ok : PrimOk Tryd.prog E0 := fun f dst svs σ σ' sv h => by cases h

theorem fn_ok (k : Nat) : FnOk Tryd.prog E0 (fnE E0 k) := mkEnv_ok (by kernel_rfl) prim_ok (by kernel_rfl) (by kernel_rfl) k

end Go.Proofs.YtkfikongenapfaaDoor.E

