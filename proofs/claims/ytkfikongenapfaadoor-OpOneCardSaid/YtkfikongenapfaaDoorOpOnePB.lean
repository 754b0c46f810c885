/- The forms of the functions, and plain laws on what they come to. No condition. -/
import Derived.Test.YtkfikongenapfaaDoorOpOnePA
import Derived.Test.YtkfikongenapfaaDoorProg
import Derived.KernelRfl
import Derived.IntWalk

namespace Go.Proofs.YtkfikongenapfaaDoor.E
open Go
set_option linter.unusedSimpArgs false
set_option linter.unusedVariables false
/-! what the laws compare with -/
theorem F_ref00SameOp_eq (k : Nat) (a b : TOp) (hk : a.2.2.2.2.2.2.2.2.2.2.1.length = b.2.2.2.2.2.2.2.2.2.2.1.length → a.2.2.2.2.2.2.2.2.2.2.1.length < k ∧ a.2.2.2.2.2.2.2.2.2.2.1.length ≤ 4611686018427387903) :
    F_ref00SameOp (k + 1) a b = some ((decide (a = b), ()), ()) := by
  obtain ⟨kd, i, t, blk, par, key, seg, lf, rt, tx, cu, fl, u⟩ := a
  obtain ⟨kd', i', t', blk', par', key', seg', lf', rt', tx', cu', fl', u'⟩ := b
  rw [F_ref00SameOp_step]
  dsimp only at hk ⊢
  simp only [eqI, eqC, cond_t]
  have hcase : (kd = kd' ∧ i = i' ∧ t = t' ∧ blk = blk' ∧ par = par' ∧ key = key' ∧ seg = seg' ∧ lf = lf' ∧ rt = rt' ∧ tx = tx' ∧ fl = fl' ∧ cu.length = cu'.length) ∨
      ¬ (kd = kd' ∧ i = i' ∧ t = t' ∧ blk = blk' ∧ par = par' ∧ key = key' ∧ seg = seg' ∧ lf = lf' ∧ rt = rt' ∧ tx = tx' ∧ fl = fl' ∧ cu.length = cu'.length) := Classical.em _
  rcases hcase with ⟨rfl, rfl, rfl, rfl, rfl, rfl, rfl, rfl, rfl, rfl, rfl, hl⟩ | hn
  · obtain ⟨h1, h2⟩ := hk hl
    rw [br_f (by simp [hl])]
    have key2 : ∀ (m j : Nat), j ≤ cu.length → cu.length - j < m →
        ((∃ x, L_ref00SameOp_0 k (kd, i, t, blk, par, key, seg, lf, rt, tx, cu, fl, u) (kd, i, t, blk, par, key, seg, lf, rt, tx, cu', fl, u') m (false, ((j : Int), ())) = some (.brk x)) ∧ cu.drop j = cu'.drop j) ∨
        (L_ref00SameOp_0 k (kd, i, t, blk, par, key, seg, lf, rt, tx, cu, fl, u) (kd, i, t, blk, par, key, seg, lf, rt, tx, cu', fl, u') m (false, ((j : Int), ())) = some (.ret (false, ()) ()) ∧ cu.drop j ≠ cu'.drop j) := by
      intro m
      induction m with
      | zero => intro j _ h; omega
      | succ m ih =>
        intro j h3 h4
        rw [L_ref00SameOp_0_step]
        dsimp only
        by_cases h : j < cu.length
        · have h' : j < cu'.length := by omega
          rw [br_t (i_lt h)]
          simp only [i_in h, i_in h', br_true, both_self]
          rw [getD_of h, getD_of (l := cu') (by omega), i_nx (by omega), List.drop_eq_getElem_cons h, List.drop_eq_getElem_cons (l := cu') (by omega)]
          simp only [eqK]
          by_cases he : cu[j] = cu'[j]'(by omega)
          · rw [br_f (by simp [he])]
            rcases ih (j + 1) (by omega) (by omega) with ⟨x, e⟩ | ⟨x, e⟩
            · exact .inl ⟨x, by rw [he, e]⟩
            · exact .inr ⟨x, fun e' => e (List.cons.inj e').2⟩
          · rw [br_t (by simp [he])]
            exact .inr ⟨rfl, by intro e; exact he (List.cons.inj e).1⟩
        · have : j = cu.length := by omega
          subst this
          rw [br_f (i_ge _)]
          refine .inl ⟨⟨_, rfl⟩, ?_⟩
          rw [List.drop_eq_nil_of_le (Nat.le_refl _), List.drop_eq_nil_of_le (by omega)]
    rcases key2 k 0 (by omega) (by omega) with ⟨⟨x, e⟩, e2⟩ | ⟨e, e2⟩
    · rw [show ((0 : Nat) : Int) = 0 from rfl] at e
      rw [e]
      simp at e2
      simp [e2]
    · rw [show ((0 : Nat) : Int) = 0 from rfl] at e
      rw [e]
      simp at e2
      simp [e2]
  · rw [br_t]
    · have : ((kd, i, t, blk, par, key, seg, lf, rt, tx, cu, fl, u) : TOp) ≠ (kd', i', t', blk', par', key', seg', lf', rt', tx', cu', fl', u') := by
        intro e
        simp only [Prod.mk.injEq] at e
        obtain ⟨h1, h2, h3, h4, h5, h6, h7, h8, h9, h10, h11, h12, _⟩ := e
        exact hn ⟨h1, h2, h3, h4, h5, h6, h7, h8, h9, h10, h12, by rw [h11]⟩
      rw [decide_eq_false this]
    · cases hb : (kd != kd' || !decide (i = i') || t != t' || !decide (blk = blk') || !decide (par = par') || !key == key' || !decide (seg = seg') || !decide (lf = lf') || !decide (rt = rt') || !tx == tx' || !fl == fl' || ((cu.length : Nat) : Int) != ((cu'.length : Nat) : Int)) with
      | true => rfl
      | false =>
        exfalso
        apply hn
        simp only [Bool.or_eq_false_iff, bne_eq_false_iff_eq, Bool.not_eq_false', decide_eq_true_eq, beq_iff_eq] at hb
        obtain ⟨⟨⟨⟨⟨⟨⟨⟨⟨⟨⟨h1, h2⟩, h3⟩, h4⟩, h5⟩, h6⟩, h7⟩, h8⟩, h9⟩, h10⟩, h11⟩, h12⟩ := hb
        exact ⟨h1, h2, h3, h4, h5, h6, h7, h8, h9, h10, h11, by omega⟩

def longOp (o : TOp) : Bool := decide (o.2.2.2.2.2.2.2.2.2.1.length > 200) || decide (o.2.2.2.2.2.1.length > 200) || decide (o.2.2.2.2.2.2.2.2.2.2.1.length > 40)

theorem F_ref00Long_eq (k : Nat) (l : List TOp) (n : Int) (hk : (l.length : Int) ≤ n → l.length < k ∧ l.length ≤ 4611686018427387903) : F_ref00Long (k + 1) l n = some ((decide ((l.length : Int) > n) || l.any longOp, ()), ()) := by
  rw [F_ref00Long_step]
  by_cases hn : (l.length : Int) > n
  · rw [br_t (by simpa using hn)]; simp [hn]
  · obtain ⟨h1, h2⟩ := hk (by omega)
    rw [br_f (by simpa using hn)]
    have key : ∀ (m i : Nat), i ≤ l.length → l.length - i < m →
        ((∃ x, L_ref00Long_0 k l m (false, ((i : Int), ())) = some (.brk x)) ∧ (l.drop i).any longOp = false) ∨
        (L_ref00Long_0 k l m (false, ((i : Int), ())) = some (.ret (true, ()) ()) ∧ (l.drop i).any longOp = true) := by
      intro m
      induction m with
      | zero => intro i _ h; omega
      | succ m ih =>
        intro i h3 h4
        rw [L_ref00Long_0_step]
        by_cases h : i < l.length
        · rw [br_t (i_lt h), br_t (i_in h), br_t (i_in h), br_t (i_in h), getD_of h, i_nx (by omega), List.drop_eq_getElem_cons h]
          simp only [List.any_cons, Bool.cond_false, longOp]
          have c1 : ∀ n : Nat, decide (((n : Nat) : Int) > 200) = decide (n > 200) := fun n => by apply decide_eq_decide.2; omega
          have c2 : ∀ n : Nat, decide (((n : Nat) : Int) > 40) = decide (n > 40) := fun n => by apply decide_eq_decide.2; omega
          rw [c1, c1, c2]
          cases hc1 : decide (l[i].2.2.2.2.2.2.2.2.2.1.length > 200) with
          | true => exact .inr ⟨rfl, rfl⟩
          | false =>
            cases hc2 : decide (l[i].2.2.2.2.2.1.length > 200) with
            | true => exact .inr ⟨rfl, rfl⟩
            | false =>
              cases hc3 : decide (l[i].2.2.2.2.2.2.2.2.2.2.1.length > 40) with
              | true => exact .inr ⟨rfl, rfl⟩
              | false =>
                rcases ih (i + 1) (by omega) (by omega) with ⟨x, e⟩ | ⟨x, e⟩
                · exact .inl ⟨x, by simpa using e⟩
                · exact .inr ⟨x, by simpa using e⟩
        · have : i = l.length := by omega
          subst this
          rw [br_f (i_ge _)]
          exact .inl ⟨⟨_, rfl⟩, by simp⟩
    rcases key k 0 (by omega) (by omega) with ⟨⟨x, e⟩, e2⟩ | ⟨e, e2⟩
    · rw [show ((0 : Nat) : Int) = 0 from rfl] at e
      rw [e]
      simp only [List.drop_zero] at e2
      simp [e2, hn]
    · rw [show ((0 : Nat) : Int) = 0 from rfl] at e
      rw [e]
      simp only [List.drop_zero] at e2
      simp [e2, hn]

/-! whom an op names -/
theorem F_slicesContainsapiId_eq (k : Nat) (l : List TId) (x : TId) (hk : l.length < k ∧ l.length ≤ 4611686018427387903) : F_slicesContainsapiId (k + 2) l x = some ((decide (x ∈ l), ()), ()) := by
  rw [F_slicesContainsapiId_step, F_slicesIndexapiId_step]
  obtain ⟨h1, h2⟩ := hk
  have key : ∀ (m i : Nat), i ≤ l.length → l.length - i < m →
      ((∃ z, L_slicesIndexapiId_0 k l x (l.length : Int) m (0, ((i : Int), ())) = some (.brk z)) ∧ x ∉ l.drop i) ∨
      ((∃ j : Nat, L_slicesIndexapiId_0 k l x (l.length : Int) m (0, ((i : Int), ())) = some (.ret ((j : Int), ()) ())) ∧ x ∈ l.drop i) := by
    intro m
    induction m with
    | zero => intro i _ h; omega
    | succ m ih =>
      intro i h3 h4
      rw [L_slicesIndexapiId_0_step]
      by_cases h : i < l.length
      · rw [br_t (i_lt h), br_t (i_in h), getD_of h, i_nx (by omega), List.drop_eq_getElem_cons h]
        simp only [eqI]
        by_cases he : x = l[i]
        · rw [br_t (by simp [he])]
          exact .inr ⟨⟨i, rfl⟩, by rw [← he]; simp⟩
        · rw [br_f (by simp [he])]
          rcases ih (i + 1) (by omega) (by omega) with ⟨z, e⟩ | ⟨z, e⟩
          · exact .inl ⟨z, by simp only [List.mem_cons, not_or]; exact ⟨he, e⟩⟩
          · exact .inr ⟨z, by simp only [List.mem_cons]; exact .inr e⟩
      · have : i = l.length := by omega
        subst this
        rw [br_f (i_ge _)]
        exact .inl ⟨⟨_, rfl⟩, by simp⟩
  rcases key k 0 (by omega) (by omega) with ⟨⟨z, e⟩, e2⟩ | ⟨⟨j, e⟩, e2⟩
  · rw [show ((0 : Nat) : Int) = 0 from rfl] at e
    rw [e]
    simp only [List.drop_zero] at e2
    simp [e2]
  · rw [show ((0 : Nat) : Int) = 0 from rfl] at e
    rw [e]
    simp only [List.drop_zero] at e2
    simp [e2]

def allIds (o : TOp) : List TId := [o.2.2.2.1, o.2.2.2.2.1, o.2.2.2.2.2.2.1, o.2.2.2.2.2.2.2.1.1, o.2.2.2.2.2.2.2.2.1.1] ++ o.2.2.2.2.2.2.2.2.2.2.1.map (·.1)

def addId (out : List TId) (i : TId) : List TId := if i.2.1 ≠ 0 ∧ i ∉ out then out ++ [i] else out

def needs (o : TOp) : List TId := (allIds o).foldl addId []

theorem addId_len (out : List TId) (i : TId) : (addId out i).length ≤ out.length + 1 := by unfold addId; split <;> simp

theorem F_opNeeds_eq (k : Nat) (o : TOp) (h : o.2.2.2.2.2.2.2.2.2.2.1.length ≤ 40) : F_opNeeds (k + 60) o = some ((needs o, ()), ()) := by
  rw [F_opNeeds_step]
  generalize hc : o.2.2.2.2.2.2.2.2.2.2.1 = cu at *
  have k0 := for_run0 (L := fun m i (s : List TId) => L_opNeeds_0 (k + 59) cu (cu.length : Int) m (s, (i, ()))) (l := cu) (R := LO (List TId × Unit) (List TId × (Int × Unit)) Unit)
    (fun s x => .inl (s ++ [x.1])) (fun s => .brk (s, ((cu.length : Int), ()))) (fun i s => s.length ≤ 5 + i)
    (fun m i s hi hI => by
      constructor
      · show L_opNeeds_0 (k + 59) cu (cu.length : Int) (m + 1) (s, ((i : Int), ())) = _
        rw [L_opNeeds_0_step, br_t (i_lt hi), br_t (i_in hi), getD_of hi, i_nx (by omega), br_t (by simp; omega)]
      · intro s' e
        simp only [Sum.inl.injEq] at e
        subst e
        simp; omega)
    (fun m s hI => by
      show L_opNeeds_0 (k + 59) cu (cu.length : Int) (m + 1) (s, ((cu.length : Int), ())) = _
      rw [L_opNeeds_0_step, br_f (i_ge _)])
    (k + 59) [o.2.2.2.1, o.2.2.2.2.1, o.2.2.2.2.2.2.1, o.2.2.2.2.2.2.2.1.1, o.2.2.2.2.2.2.2.2.1.1] (by omega) (by simp)
  rw [k0, runL_fold]
  simp only [bdL_b]
  have hfold : ∀ (l : List TCut) (s : List TId), l.foldl (fun s x => s ++ [x.1]) s = s ++ l.map (·.1) := by
    intro l
    induction l with
    | nil => intro s; simp
    | cons x l ih => intro s; simp [ih, List.append_assoc]
  rw [hfold]
  have hall : [o.2.2.2.1, o.2.2.2.2.1, o.2.2.2.2.2.2.1, o.2.2.2.2.2.2.2.1.1, o.2.2.2.2.2.2.2.2.1.1] ++ cu.map (·.1) = allIds o := by unfold allIds; rw [hc]
  rw [hall]
  have hlen : (allIds o).length ≤ 45 := by unfold allIds; rw [hc]; simp; omega
  unfold needs
  generalize allIds o = all at *
  have k2 := for_run0 (L := fun m i (s : List TId) => L_opNeeds_2 (k + 59) all (all.length : Int) m (s, (i, ()))) (l := all) (R := LO (List TId × Unit) (List TId × (Int × Unit)) Unit)
    (fun s x => .inl (addId s x)) (fun s => .brk (s, ((all.length : Int), ()))) (fun i s => s.length ≤ i)
    (fun m i s hi hI => by
      constructor
      · show L_opNeeds_2 (k + 59) all (all.length : Int) (m + 1) (s, ((i : Int), ())) = _
        rw [L_opNeeds_2_step, br_t (i_lt hi), br_t (i_in hi), getD_of hi, i_nx (by omega), F_slicesContainsapiId_eq _ _ _ ⟨by omega, by omega⟩]
        simp only [bd_s, addId]
        by_cases h0 : all[i].2.1 = 0
        · rw [br_f (by simp [h0]), if_neg (by simp [h0])]
        · rw [br_t (by simp [h0])]
          by_cases hm : all[i] ∈ s
          · rw [br_f (by simp [hm]), if_neg (by simp [hm])]
          · rw [br_t (by simp [hm]), br_t (by simp; omega), if_pos ⟨h0, hm⟩]
      · intro s' e
        simp only [Sum.inl.injEq] at e
        subst e
        have := addId_len s all[i]
        omega)
    (fun m s hI => by
      show L_opNeeds_2 (k + 59) all (all.length : Int) (m + 1) (s, ((all.length : Int), ())) = _
      rw [L_opNeeds_2_step, br_f (i_ge _)])
    (k + 59) [] (by omega) (by simp)
  rw [k2, runL_fold]
  rfl

/-- the op of the laws' first line -/
def foldOp : TOp := (6, ((1, (2, ())), (3, ((0, (1, ())), ((0, (0, ())), ([], ((0, (0, ())), (((0, (0, ())), (0, ())), (((0, (0, ())), (0, ())), ([], ([], (true, ()))))))))))))

theorem F_law05fold_eq (k : Nat) : F_law05fold (k + 1) = some ((foldOp, ()), ()) := F_law05fold_step k

theorem fold_right : right foldOp = true := by kernel_rfl

theorem fold_enc : enc foldOp = [6, 1, 2, 3, 0, 1, 1] := by kernel_rfl

theorem fold_needs : needs foldOp = [(0, 1, ())] := by kernel_rfl

theorem zero_right : right zOp = false := by kernel_rfl

end Go.Proofs.YtkfikongenapfaaDoor.E

namespace Go.Proofs.YtkfikongenapfaaDoor.E
open Go
set_option linter.unusedVariables false
set_option maxRecDepth 100000
noncomputable def F_law05alive (k : Nat)  : Option (((Bool) × (Unit)) × (Unit)) := fnE E0 k 24 ()

noncomputable def F_law05OpOne (k : Nat) (a0 : List (Int)) (a1 : TOp) (a2 : TOp) : Option (((Bool) × (Unit)) × (Unit)) := fnE E0 k 6 (a0, a1, a2, ())

theorem F_law05alive_step (k : Nat)  : F_law05alive (k + 1)  =
  (bd (F_law05fold k ) (fun (r : ((TOp) × (Unit)) × (Unit)) => (bd (F_opEncode k r.1.1) (fun (r1 : (Cur) × (Unit)) => (bd (F_opDecode k ((6 : Int) :: ((1 : Int) :: ((2 : Int) :: ((3 : Int) :: ((0 : Int) :: ((1 : Int) :: ((1 : Int) :: ([] : List (Int)))))))))) (fun (r2 : ((TOp) × ((Bool) × (Unit))) × (Unit)) => (bd (F_law05fold k ) (fun (r3 : ((TOp) × (Unit)) × (Unit)) => (bd (F_opNeeds k r3.1.1) (fun (r4 : ((List (TId)) × (Unit)) × (Unit)) => (br (boolEq r1.1.2.1 true)
        (br (boolEq (cond true r2.1.2.1 false) true)
         (bd (F_ref00SameBytes k r1.1.1 ((6 : Int) :: ((1 : Int) :: ((2 : Int) :: ((3 : Int) :: ((0 : Int) :: ((1 : Int) :: ((1 : Int) :: ([] : List (Int)))))))))) (fun (r5 : ((Bool) × (Unit)) × (Unit)) => (br (boolEq (cond true r5.1.1 false) true)
            (bd (F_law05fold k ) (fun (r6 : ((TOp) × (Unit)) × (Unit)) => (bd (F_ref00SameOp k r2.1.1 r6.1.1) (fun (r7 : ((Bool) × (Unit)) × (Unit)) => (br (boolEq (cond true r7.1.1 false) true)
               (br (boolEq (cond true ((((List.length r4.1.1) : Nat) : Int) == (1 : Int)) false) true)
                (br (inB (0 : Int) (List.length r4.1.1))
                 (br (boolEq (cond true (denEq (.pair (.int .i64) (.pair (.int .i64) .unit)) (List.getD r4.1.1 (0 : Nat) ((0 : Int), ((0 : Int), ()))) ((0 : Int), ((1 : Int), ()))) false) true)
                   (bd (F_opRight k zOp) (fun (r8 : ((Bool) × (Unit)) × (Unit)) => (br (boolEq (cond true (!r8.1.1) false) true)
                      (bd (F_law05fold k ) (fun (r9 : ((TOp) × (Unit)) × (Unit)) => (bd (F_opSame k r2.1.1 r9.1.1) (fun (r10 : ((Bool) × (Unit)) × (Unit)) => (some ((r10.1.1, ()), ()))))))
                      (some ((false, ()), ())))))
                   (some ((false, ()), ())))
                 none)
                (some ((false, ()), ())))
               (some ((false, ()), ())))))))
            (some ((false, ()), ())))))
         (some ((false, ()), ())))
        (some ((false, ()), ()))))))))))))) :=
 (show F_law05alive (k + 1)  =
  (bd (F_law05fold k ) (fun (r : ((TOp) × (Unit)) × (Unit)) => (bd (F_opEncode k r.1.1) (fun (r1 : (Cur) × (Unit)) => (bd (F_opDecode k ((6 : Int) :: ((1 : Int) :: ((2 : Int) :: ((3 : Int) :: ((0 : Int) :: ((1 : Int) :: ((1 : Int) :: ([] : List (Int)))))))))) (fun (r2 : ((TOp) × ((Bool) × (Unit))) × (Unit)) => (bd (F_law05fold k ) (fun (r3 : ((TOp) × (Unit)) × (Unit)) => (bd (F_opNeeds k r3.1.1) (fun (r4 : ((List (TId)) × (Unit)) × (Unit)) => (br (boolEq r1.1.2.1 true)
        (br (boolEq (cond true r2.1.2.1 false) true)
         (bd (F_ref00SameBytes k r1.1.1 ((6 : Int) :: ((1 : Int) :: ((2 : Int) :: ((3 : Int) :: ((0 : Int) :: ((1 : Int) :: ((1 : Int) :: ([] : List (Int)))))))))) (fun (r5 : ((Bool) × (Unit)) × (Unit)) => (both
           (br (boolEq (cond true r5.1.1 false) true)
            (bd (F_law05fold k ) (fun (r6 : ((TOp) × (Unit)) × (Unit)) => (bd (F_ref00SameOp k r2.1.1 r6.1.1) (fun (r7 : ((Bool) × (Unit)) × (Unit)) => (br (boolEq (cond true r7.1.1 false) true)
               (br (boolEq (cond true ((((List.length r4.1.1) : Nat) : Int) == (1 : Int)) false) true)
                (br (inB (0 : Int) (List.length r4.1.1))
                 (both
                  (br (boolEq (cond true (denEq (.pair (.int .i64) (.pair (.int .i64) .unit)) (List.getD r4.1.1 (0 : Nat) ((0 : Int), ((0 : Int), ()))) ((0 : Int), ((1 : Int), ()))) false) true)
                   (bd (F_opRight k zOp) (fun (r8 : ((Bool) × (Unit)) × (Unit)) => (both
                     (br (boolEq (cond true (!r8.1.1) false) true)
                      (bd (F_law05fold k ) (fun (r9 : ((TOp) × (Unit)) × (Unit)) => (bd (F_opSame k r2.1.1 r9.1.1) (fun (r10 : ((Bool) × (Unit)) × (Unit)) => (some ((r10.1.1, ()), ()))))))
                      (some ((false, ()), ())))
                     (br (boolEq (cond true (!r8.1.1) false) true)
                      (bd (F_law05fold k ) (fun (r9 : ((TOp) × (Unit)) × (Unit)) => (bd (F_opSame k r2.1.1 r9.1.1) (fun (r10 : ((Bool) × (Unit)) × (Unit)) => (some ((r10.1.1, ()), ()))))))
                      (some ((false, ()), ()))))))
                   (both
                    (some ((false, ()), ()))
                    (some ((false, ()), ()))))
                  (br (boolEq (cond true (denEq (.pair (.int .i64) (.pair (.int .i64) .unit)) (List.getD r4.1.1 (0 : Nat) ((0 : Int), ((0 : Int), ()))) ((0 : Int), ((1 : Int), ()))) false) true)
                   (bd (F_opRight k zOp) (fun (r8 : ((Bool) × (Unit)) × (Unit)) => (both
                     (br (boolEq (cond true (!r8.1.1) false) true)
                      (bd (F_law05fold k ) (fun (r9 : ((TOp) × (Unit)) × (Unit)) => (bd (F_opSame k r2.1.1 r9.1.1) (fun (r10 : ((Bool) × (Unit)) × (Unit)) => (some ((r10.1.1, ()), ()))))))
                      (some ((false, ()), ())))
                     (br (boolEq (cond true (!r8.1.1) false) true)
                      (bd (F_law05fold k ) (fun (r9 : ((TOp) × (Unit)) × (Unit)) => (bd (F_opSame k r2.1.1 r9.1.1) (fun (r10 : ((Bool) × (Unit)) × (Unit)) => (some ((r10.1.1, ()), ()))))))
                      (some ((false, ()), ()))))))
                   (both
                    (some ((false, ()), ()))
                    (some ((false, ()), ())))))
                 none)
                (both
                 (both
                  (some ((false, ()), ()))
                  (some ((false, ()), ())))
                 (both
                  (some ((false, ()), ()))
                  (some ((false, ()), ())))))
               (both
                (both
                 (some ((false, ()), ()))
                 (some ((false, ()), ())))
                (both
                 (some ((false, ()), ()))
                 (some ((false, ()), ())))))))))
            (both
             (both
              (some ((false, ()), ()))
              (some ((false, ()), ())))
             (both
              (some ((false, ()), ()))
              (some ((false, ()), ())))))
           (br (boolEq (cond true r5.1.1 false) true)
            (bd (F_law05fold k ) (fun (r6 : ((TOp) × (Unit)) × (Unit)) => (bd (F_ref00SameOp k r2.1.1 r6.1.1) (fun (r7 : ((Bool) × (Unit)) × (Unit)) => (br (boolEq (cond true r7.1.1 false) true)
               (br (boolEq (cond true ((((List.length r4.1.1) : Nat) : Int) == (1 : Int)) false) true)
                (br (inB (0 : Int) (List.length r4.1.1))
                 (both
                  (br (boolEq (cond true (denEq (.pair (.int .i64) (.pair (.int .i64) .unit)) (List.getD r4.1.1 (0 : Nat) ((0 : Int), ((0 : Int), ()))) ((0 : Int), ((1 : Int), ()))) false) true)
                   (bd (F_opRight k zOp) (fun (r8 : ((Bool) × (Unit)) × (Unit)) => (both
                     (br (boolEq (cond true (!r8.1.1) false) true)
                      (bd (F_law05fold k ) (fun (r9 : ((TOp) × (Unit)) × (Unit)) => (bd (F_opSame k r2.1.1 r9.1.1) (fun (r10 : ((Bool) × (Unit)) × (Unit)) => (some ((r10.1.1, ()), ()))))))
                      (some ((false, ()), ())))
                     (br (boolEq (cond true (!r8.1.1) false) true)
                      (bd (F_law05fold k ) (fun (r9 : ((TOp) × (Unit)) × (Unit)) => (bd (F_opSame k r2.1.1 r9.1.1) (fun (r10 : ((Bool) × (Unit)) × (Unit)) => (some ((r10.1.1, ()), ()))))))
                      (some ((false, ()), ()))))))
                   (both
                    (some ((false, ()), ()))
                    (some ((false, ()), ()))))
                  (br (boolEq (cond true (denEq (.pair (.int .i64) (.pair (.int .i64) .unit)) (List.getD r4.1.1 (0 : Nat) ((0 : Int), ((0 : Int), ()))) ((0 : Int), ((1 : Int), ()))) false) true)
                   (bd (F_opRight k zOp) (fun (r8 : ((Bool) × (Unit)) × (Unit)) => (both
                     (br (boolEq (cond true (!r8.1.1) false) true)
                      (bd (F_law05fold k ) (fun (r9 : ((TOp) × (Unit)) × (Unit)) => (bd (F_opSame k r2.1.1 r9.1.1) (fun (r10 : ((Bool) × (Unit)) × (Unit)) => (some ((r10.1.1, ()), ()))))))
                      (some ((false, ()), ())))
                     (br (boolEq (cond true (!r8.1.1) false) true)
                      (bd (F_law05fold k ) (fun (r9 : ((TOp) × (Unit)) × (Unit)) => (bd (F_opSame k r2.1.1 r9.1.1) (fun (r10 : ((Bool) × (Unit)) × (Unit)) => (some ((r10.1.1, ()), ()))))))
                      (some ((false, ()), ()))))))
                   (both
                    (some ((false, ()), ()))
                    (some ((false, ()), ())))))
                 none)
                (both
                 (both
                  (some ((false, ()), ()))
                  (some ((false, ()), ())))
                 (both
                  (some ((false, ()), ()))
                  (some ((false, ()), ())))))
               (both
                (both
                 (some ((false, ()), ()))
                 (some ((false, ()), ())))
                (both
                 (some ((false, ()), ()))
                 (some ((false, ()), ())))))))))
            (both
             (both
              (some ((false, ()), ()))
              (some ((false, ()), ())))
             (both
              (some ((false, ()), ()))
              (some ((false, ()), ()))))))))
         (both
          (both
           (both
            (some ((false, ()), ()))
            (some ((false, ()), ())))
           (both
            (some ((false, ()), ()))
            (some ((false, ()), ()))))
          (both
           (both
            (some ((false, ()), ()))
            (some ((false, ()), ())))
           (both
            (some ((false, ()), ()))
            (some ((false, ()), ()))))))
        (both
         (both
          (both
           (some ((false, ()), ()))
           (some ((false, ()), ())))
          (both
           (some ((false, ()), ()))
           (some ((false, ()), ()))))
         (both
          (both
           (some ((false, ()), ()))
           (some ((false, ()), ())))
          (both
           (some ((false, ()), ()))
           (some ((false, ()), ())))))))))))))))) by kernel_rfl).trans (by simp only [both_self])

theorem F_law05OpOne_step (k : Nat) (a0 : List (Int)) (a1 : TOp) (a2 : TOp) : F_law05OpOne (k + 1) a0 a1 a2 =
  (bd (F_law05alive k ) (fun (r : ((Bool) × (Unit)) × (Unit)) => (br (!r.1.1)
    (some ((false, ()), ()))
    (br (decide ((((List.length a0) : Nat) : Int) > (3000 : Int)))
     (some ((true, ()), ()))
     (bd (F_ref00Long k (a1 :: (a2 :: ([] : List (TOp)))) (2 : Int)) (fun (r1 : ((Bool) × (Unit)) × (Unit)) => (br (cond false true r1.1.1)
       (some ((true, ()), ()))
       (bd (F_opDecode k a0) (fun (r2 : ((TOp) × ((Bool) × (Unit))) × (Unit)) => (br r2.1.2.1
         (bd (F_opEncode k r2.1.1) (fun (r3 : (Cur) × (Unit)) => (br (!r3.1.2.1)
           (some ((false, ()), ()))
           (bd (F_ref00SameBytes k r3.1.1 a0) (fun (r4 : ((Bool) × (Unit)) × (Unit)) => (br (cond false true (!r4.1.1))
             (some ((false, ()), ()))
             (bd (F_opRight k r2.1.1) (fun (r5 : ((Bool) × (Unit)) × (Unit)) => (br (cond false true (!r5.1.1))
               (some ((false, ()), ()))
               (bd (F_opEncode k a1) (fun (r6 : (Cur) × (Unit)) => (bd (F_opEncode k a2) (fun (r7 : (Cur) × (Unit)) => (br (boolEq (!r6.1.2.1) false)
                  (br (boolEq (cond false true (!r7.1.2.1)) false)
                   (bd (F_ref00SameBytes k r6.1.1 r7.1.1) (fun (r8 : ((Bool) × (Unit)) × (Unit)) => (bd (F_opSame k a1 a2) (fun (r9 : ((Bool) × (Unit)) × (Unit)) => (some (((cond false true (r8.1.1 == r9.1.1)), ()), ()))))))
                   (some ((true, ()), ())))
                  (some ((true, ()), ()))))))))))))))))
         (bd (F_opEncode k a1) (fun (r3 : (Cur) × (Unit)) => (bd (F_opEncode k a2) (fun (r4 : (Cur) × (Unit)) => (br (boolEq (!r3.1.2.1) false)
            (br (boolEq (cond false true (!r4.1.2.1)) false)
             (bd (F_ref00SameBytes k r3.1.1 r4.1.1) (fun (r5 : ((Bool) × (Unit)) × (Unit)) => (bd (F_opSame k a1 a2) (fun (r6 : ((Bool) × (Unit)) × (Unit)) => (some (((cond false true (r5.1.1 == r6.1.1)), ()), ()))))))
             (some ((true, ()), ())))
            (some ((true, ()), ()))))))))))))))))) :=
 (show F_law05OpOne (k + 1) a0 a1 a2 =
  (bd (F_law05alive k ) (fun (r : ((Bool) × (Unit)) × (Unit)) => (br (!r.1.1)
    (some ((false, ()), ()))
    (br (decide ((((List.length a0) : Nat) : Int) > (3000 : Int)))
     (some ((true, ()), ()))
     (bd (F_ref00Long k (a1 :: (a2 :: ([] : List (TOp)))) (2 : Int)) (fun (r1 : ((Bool) × (Unit)) × (Unit)) => (br (cond false true r1.1.1)
       (some ((true, ()), ()))
       (bd (F_opDecode k a0) (fun (r2 : ((TOp) × ((Bool) × (Unit))) × (Unit)) => (br r2.1.2.1
         (bd (F_opEncode k r2.1.1) (fun (r3 : (Cur) × (Unit)) => (br (!r3.1.2.1)
           (some ((false, ()), ()))
           (bd (F_ref00SameBytes k r3.1.1 a0) (fun (r4 : ((Bool) × (Unit)) × (Unit)) => (br (cond false true (!r4.1.1))
             (some ((false, ()), ()))
             (bd (F_opRight k r2.1.1) (fun (r5 : ((Bool) × (Unit)) × (Unit)) => (br (cond false true (!r5.1.1))
               (some ((false, ()), ()))
               (bd (F_opEncode k a1) (fun (r6 : (Cur) × (Unit)) => (bd (F_opEncode k a2) (fun (r7 : (Cur) × (Unit)) => (br (boolEq (!r6.1.2.1) false)
                  (br (boolEq (cond false true (!r7.1.2.1)) false)
                   (both
                    (bd (F_ref00SameBytes k r6.1.1 r7.1.1) (fun (r8 : ((Bool) × (Unit)) × (Unit)) => (both
                      (bd (F_opSame k a1 a2) (fun (r9 : ((Bool) × (Unit)) × (Unit)) => (some (((cond false true (r8.1.1 == r9.1.1)), ()), ()))))
                      (bd (F_opSame k a1 a2) (fun (r9 : ((Bool) × (Unit)) × (Unit)) => (some (((cond false true (r8.1.1 == r9.1.1)), ()), ())))))))
                    (both
                     (both
                      (bd (F_ref00SameBytes k r6.1.1 r7.1.1) (fun (r8 : ((Bool) × (Unit)) × (Unit)) => (bd (F_opSame k a1 a2) (fun (r9 : ((Bool) × (Unit)) × (Unit)) => (some (((cond false true (r8.1.1 == r9.1.1)), ()), ()))))))
                      (bd (F_ref00SameBytes k r6.1.1 r7.1.1) (fun (r8 : ((Bool) × (Unit)) × (Unit)) => (bd (F_opSame k a1 a2) (fun (r9 : ((Bool) × (Unit)) × (Unit)) => (some (((cond false true (r8.1.1 == r9.1.1)), ()), ())))))))
                     (both
                      (bd (F_ref00SameBytes k r6.1.1 r7.1.1) (fun (r8 : ((Bool) × (Unit)) × (Unit)) => (bd (F_opSame k a1 a2) (fun (r9 : ((Bool) × (Unit)) × (Unit)) => (some (((cond false true (r8.1.1 == r9.1.1)), ()), ()))))))
                      (bd (F_ref00SameBytes k r6.1.1 r7.1.1) (fun (r8 : ((Bool) × (Unit)) × (Unit)) => (bd (F_opSame k a1 a2) (fun (r9 : ((Bool) × (Unit)) × (Unit)) => (some (((cond false true (r8.1.1 == r9.1.1)), ()), ())))))))))
                   (both
                    (both
                     (some ((true, ()), ()))
                     (some ((true, ()), ())))
                    (both
                     (both
                      (some ((true, ()), ()))
                      (some ((true, ()), ())))
                     (both
                      (some ((true, ()), ()))
                      (some ((true, ()), ()))))))
                  (both
                   (both
                    (some ((true, ()), ()))
                    (some ((true, ()), ())))
                   (both
                    (both
                     (some ((true, ()), ()))
                     (some ((true, ()), ())))
                    (both
                     (some ((true, ()), ()))
                     (some ((true, ()), ())))))))))))))))))))
         (bd (F_opEncode k a1) (fun (r3 : (Cur) × (Unit)) => (bd (F_opEncode k a2) (fun (r4 : (Cur) × (Unit)) => (br (boolEq (!r3.1.2.1) false)
            (br (boolEq (cond false true (!r4.1.2.1)) false)
             (both
              (bd (F_ref00SameBytes k r3.1.1 r4.1.1) (fun (r5 : ((Bool) × (Unit)) × (Unit)) => (both
                (bd (F_opSame k a1 a2) (fun (r6 : ((Bool) × (Unit)) × (Unit)) => (some (((cond false true (r5.1.1 == r6.1.1)), ()), ()))))
                (bd (F_opSame k a1 a2) (fun (r6 : ((Bool) × (Unit)) × (Unit)) => (some (((cond false true (r5.1.1 == r6.1.1)), ()), ())))))))
              (both
               (both
                (bd (F_ref00SameBytes k r3.1.1 r4.1.1) (fun (r5 : ((Bool) × (Unit)) × (Unit)) => (bd (F_opSame k a1 a2) (fun (r6 : ((Bool) × (Unit)) × (Unit)) => (some (((cond false true (r5.1.1 == r6.1.1)), ()), ()))))))
                (bd (F_ref00SameBytes k r3.1.1 r4.1.1) (fun (r5 : ((Bool) × (Unit)) × (Unit)) => (bd (F_opSame k a1 a2) (fun (r6 : ((Bool) × (Unit)) × (Unit)) => (some (((cond false true (r5.1.1 == r6.1.1)), ()), ())))))))
               (both
                (bd (F_ref00SameBytes k r3.1.1 r4.1.1) (fun (r5 : ((Bool) × (Unit)) × (Unit)) => (bd (F_opSame k a1 a2) (fun (r6 : ((Bool) × (Unit)) × (Unit)) => (some (((cond false true (r5.1.1 == r6.1.1)), ()), ()))))))
                (bd (F_ref00SameBytes k r3.1.1 r4.1.1) (fun (r5 : ((Bool) × (Unit)) × (Unit)) => (bd (F_opSame k a1 a2) (fun (r6 : ((Bool) × (Unit)) × (Unit)) => (some (((cond false true (r5.1.1 == r6.1.1)), ()), ())))))))))
             (both
              (both
               (some ((true, ()), ()))
               (some ((true, ()), ())))
              (both
               (both
                (some ((true, ()), ()))
                (some ((true, ()), ())))
               (both
                (some ((true, ()), ()))
                (some ((true, ()), ()))))))
            (both
             (both
              (some ((true, ()), ()))
              (some ((true, ()), ())))
             (both
              (both
               (some ((true, ()), ()))
               (some ((true, ()), ())))
              (both
               (some ((true, ()), ()))
               (some ((true, ()), ())))))))))))))))))))) by kernel_rfl).trans (by simp only [both_self])

end Go.Proofs.YtkfikongenapfaaDoor.E

namespace Go.Proofs.YtkfikongenapfaaDoor.E
open Go
set_option linter.unusedSimpArgs false
set_option linter.unusedVariables false
theorem dec_fold : dec [6, 1, 2, 3, 0, 1, 1] = (foldOp, (true, ())) := by rw [← fold_enc]; exact dec_enc fold_right

theorem F_law05alive_eq (k : Nat) : F_law05alive (k + 1300) = some ((true, ()), ()) := by
  rw [F_law05alive_step, F_law05fold_eq]
  simp only [bd_s]
  rw [F_opEncode_eq, F_opDecode_eq _ _ (by intro x hx; simp at hx; omega) (by simp), dec_fold]
  simp only [bd_s]
  rw [F_opNeeds_eq _ _ (by decide), fold_needs, fold_right, fold_enc]
  simp only [bd_s, if_true, boolEq, br_true, Bool.cond_true]
  rw [F_ref00SameBytes_eq _ _ _ (by simp <;> omega) (by simp)]
  simp only [bd_s]
  rw [F_ref00SameOp_eq _ _ _ (fun _ => ⟨by show 0 < _; omega, by decide⟩)]
  simp only [bd_s]
  rw [F_opRight_eq, zero_right]
  simp only [bd_s]
  rw [F_opSame_eq _ _ _ (fun _ => ⟨by show 0 < _; omega, by decide⟩)]
  simp [inB]

theorem long_small {o : TOp} (h : longOp o = false) : smallOp o ∧ o.2.2.2.2.2.2.2.2.2.2.1.length ≤ 40 := by
  simp only [longOp, Bool.or_eq_false_iff, decide_eq_false_iff_not] at h
  refine ⟨⟨?_, ?_, ?_⟩, ?_⟩ <;> omega

theorem enc_inj {a b : TOp} (ha : right a = true) (hb : right b = true) (h : enc a = enc b) : a = b := by
  have h1 := dec_enc ha
  rw [h, dec_enc hb] at h1
  exact (Prod.mk.inj h1).1.symm

theorem same_eq {a b : TOp} (ha : right a = true) (hb : right b = true) : (decide (enc a = enc b) == decide (a = b)) = true := by
  by_cases h : a = b
  · subst h; simp
  · have : enc a ≠ enc b := fun e => h (enc_inj ha hb e)
    simp [h, this]

/-- the end of the law: unlike right ops have unlike bytes -/
theorem one_end (k : Nat) (o p : TOp) (ho : longOp o = false) (hp : longOp p = false) (h9 : 301000 ≤ k) :
    (bd (F_opEncode (k + 1999) o) (fun (r3 : (Cur) × (Unit)) => (bd (F_opEncode (k + 1999) p) (fun (r4 : (Cur) × (Unit)) => (br (boolEq (!r3.1.2.1) false)
            (br (boolEq (cond false true (!r4.1.2.1)) false)
             (bd (F_ref00SameBytes (k + 1999) r3.1.1 r4.1.1) (fun (r5 : ((Bool) × (Unit)) × (Unit)) => (bd (F_opSame (k + 1999) o p) (fun (r6 : ((Bool) × (Unit)) × (Unit)) => (some (((cond false true (r5.1.1 == r6.1.1)), ()), ()))))))
             (some ((true, ()), ())))
            (some ((true, ()), ()))))))) = some (((true, ()), ()) : (Bool × Unit) × Unit) := by
  obtain ⟨hs, hc⟩ := long_small ho
  obtain ⟨hs2, hc2⟩ := long_small hp
  rw [F_opEncode_eq, F_opEncode_eq]
  simp only [bd_s]
  cases hr : right o with
  | false => rfl
  | true =>
    cases hr2 : right p with
    | false => rfl
    | true =>
      have := enc_len hs
      simp only [if_true, Bool.not_true, boolEq, br_true, Bool.cond_false]
      rw [F_ref00SameBytes_eq _ _ _ (by omega) (by omega)]
      simp only [bd_s]
      rw [F_opSame_eq _ _ _ (fun _ => ⟨by omega, by omega⟩)]
      simp only [bd_s]
      rw [same_eq hr hr2]

theorem F_law05OpOne_eq (k : Nat) (b : List Int) (o p : TOp) (hb : Byt b) (h9 : 301000 ≤ k) : F_law05OpOne (k + 2000) b o p = some ((true, ()), ()) := by
  rw [F_law05OpOne_step, F_law05alive_eq]
  simp only [bd_s]
  rw [br_f (by rfl)]
  by_cases hl3 : b.length > 3000
  · rw [br_t (by simp; omega)]
  · rw [br_f (by simp; omega), F_ref00Long_eq _ _ _ (fun _ => ⟨by simp <;> omega, by simp⟩)]
    simp only [bd_s]
    by_cases hlo : longOp o = false ∧ longOp p = false
    · obtain ⟨h1, h2⟩ := hlo
      rw [br_f (by simp [h1, h2]), F_opDecode_eq _ _ hb (by omega)]
      simp only [bd_s]
      cases hd : (dec b).2.1 with
      | false =>
        rw [br_f (by rfl)]
        exact one_end k o p h1 h2 h9
      | true =>
        obtain ⟨hr, he⟩ := dec_only hb hd
        rw [br_t (by rfl), F_opEncode_eq]
        simp only [bd_s, hr, if_true]
        rw [br_f (by rfl), F_ref00SameBytes_eq _ _ _ (by rw [← he]; omega) (by rw [← he]; omega)]
        simp only [bd_s]
        rw [br_f (by rw [← he]; simp), F_opRight_eq]
        simp only [bd_s, hr]
        rw [br_f (by rfl)]
        exact one_end k o p h1 h2 h9
    · rw [br_t]
      have : ¬ (longOp o = false ∧ longOp p = false) := hlo
      cases h1 : longOp o <;> cases h2 : longOp p <;> simp_all

/-! OpNeeds -/
end Go.Proofs.YtkfikongenapfaaDoor.E

namespace Go.Proofs.YtkfikongenapfaaDoor.E
open Go Go.Proofs
theorem prim_ok : PrimOk Tryd.prog E0 := fun f dst svs σ σ' sv h => by cases h

theorem fn_ok (k : Nat) : FnOk Tryd.prog E0 (fnE E0 k) := mkEnv_ok (by kernel_rfl) prim_ok (by kernel_rfl) (by kernel_rfl) k

end Go.Proofs.YtkfikongenapfaaDoor.E

