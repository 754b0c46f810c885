/- A plain evaluator of the program's form on data by value, and the proof that it is sound. No condition. -/
import Derived.Test.YtkfikongenapfaaDoorGC
import Derived.Calls
import Derived.Laws.AppendOwn
import Derived.Laws.Strings
import Derived.Laws.StructEq
import Derived.Laws.MakeOwn
import Derived.Laws.BytesArg
import Derived.Lib.ConvBytes
import Derived.Laws.Tables
import Derived.Laws.NewFold
import Derived.Orders
import Derived.ProofKit
import Derived.SizedLaws

namespace Go.Proofs.YtkfikongenapfaaDoor.E
open Go
set_option linter.unusedSimpArgs false
set_option linter.unusedVariables false
theorem wp_loop_ind {P : Program} {c : Code} {A : Type} (S : Nat → A → Act → World → Prop) (Q : Exit → Act → World → Prop)
    (round : ∀ n x a w, S n x a w → c.wp P (Exit.then (fun a' w' => ∃ m y, m < n ∧ S m y a' w') Q) a w) : ∀ n x a w, S n x a w → (Code.loop c).wp P Q a w := by
  intro n x a w h b k cs
  have key : ∀ n x a w, S n x a w → ∃ e a' w', Q e a' w' ∧ Arrives P (lone (b.at a (.code c :: .inLoop c :: k)) cs w) b k cs e a' w' := by
    intro n
    induction n using Nat.strongRecOn with
    | _ n ih =>
      intro x a w h
      obtain ⟨e, a1, w1, hq, harr⟩ := round n x a w h b (.inLoop c :: k) cs
      cases e with
      | normal =>
        obtain ⟨m, y, hlt, h1⟩ := hq
        obtain ⟨e2, a2, w2, hq2, harr2⟩ := ih m hlt y a1 w1 h1
        exact ⟨e2, a2, w2, hq2, .of_steps (Steps.trans harr (.one step_inLoop)) harr2⟩
      | exit id => exact ⟨_, a1, w1, hq, .pass (x := .inLoop c) rfl (fun _ _ => .inl (by simp)) harr⟩
      | goto l => exact ⟨_, a1, w1, hq, .pass (x := .inLoop c) rfl (fun _ _ => .inl (by simp)) harr⟩
      | ret => exact ⟨_, a1, w1, hq, .pass (x := .inLoop c) rfl (fun _ _ => .inl (by simp)) harr⟩
      | panic ch => exact ⟨_, a1, w1, hq, .pass (x := .inLoop c) rfl (fun _ _ => .inl (by simp)) harr⟩
      | outgrown => exact ⟨_, a1, w1, hq, .pass (x := .inLoop c) rfl (fun _ _ => .inl (by simp)) harr⟩
  obtain ⟨e, a', w', hq, harr⟩ := key n x a w h
  exact ⟨e, a', w', hq, .of_steps (.one step_loop) harr⟩

theorem asB_ok {C : Ctx} {I : Set'} {β : Nat → Value} {ρ : List (Nat × Root)} {h : Hp} {sv : SV} {v : Value} {g : Bool} (hs : SVR h C.L I β ρ sv v) (he : asB sv = some g) : v = .bool g := by
  unfold asB at he
  split at he
  · simp at he; subst he; exact of_bool hs
  · cases he

theorem not_mem_of {i : Nat} {l : List Nat} (h : natMem i l = false) : i ∉ l := fun hm => by rw [natMem_iff.2 hm] at h; cases h

theorem loop_ok {P : Program} {rs : List Ty} {rv : List ResultVar} {C : Ctx} {σ0 : St} {asg : List Nat} {c : Cut} {id n bb ff : Nat} {kv : denL (ktys c.ks)} {body : St → (Ex (denL rs) → St → Option (LO (denL rs) (denL (xtys c.xs)) (denL (btys c.xs)))) → Option (LO (denL rs) (denL (xtys c.xs)) (denL (btys c.xs)))} {code : Code} {a0 : Act}
    (hc : CutOk σ0 asg c) (htk : C.tk = []) (hk : KF C a0.tmps c.ks kv)
    (hbody : ∀ {σ K res w a Q}, body σ K = some res → Sat C σ w a → (∀ e σ' a' w', K e σ' = some res → SatE C rs rv e σ' w' a' → Keep asg a a' → Q (exitOf e) a' w') → code.wp P Q a w) {r : LO (denL rs) (denL (xtys c.xs)) (denL (btys c.xs))} {Q : Exit → Act → World → Prop}
    (hQ : ∀ e a' w', Keep asg a0 a' → OutL C rs rv n bb c kv r e a' w' → Q e a' w') :
    ∀ m xv a w, loopF true id n bb ff c kv body m xv = some r → Keep asg a0 a → Sat C (fill n bb c.ks kv c.xs xv) w a → (Code.loop code).wp P (Exit.inBlock id Q) a w := by
  intro m xv a w he hkp hs
  refine wp_loop_ind (A := denL (xtys c.xs)) (fun m xv a w => loopF true id n bb ff c kv body m xv = some r ∧ Keep asg a0 a ∧ Sat C (fill n bb c.ks kv c.xs xv) w a) _ ?_ m xv a w ⟨he, hkp, hs⟩
  rintro m xv a w ⟨he, hkp, hs⟩
  cases m with
  | zero => simp [loopF] at he
  | succ m =>
    simp only [loopF] at he
    refine hbody he hs fun e σ' a' w' h1 h2 h3 => ?_
    have hkp' := hkp.trans h3
    cases e with
    | n =>
      simp only at h1
      cases hx : outX n bb σ' c with
      | none => simp [hx] at h1
      | some b =>
        simp only [hx] at h1
        exact ⟨m, b, Nat.lt_succ_self m, h1, hkp', refill hc htk h2 hx hk hkp'⟩
    | e j =>
      simp only at h1
      cases hx : outX n bb σ' c with
      | none => simp [hx] at h1
      | some b =>
        simp only [hx] at h1
        have hf := refill hc htk h2 hx hk hkp'
        show Exit.inBlock id Q (.exit j) a' w'
        cases hj : Nat.beq j id with
        | true =>
          rw [hj] at h1
          simp only [br, cond_true, cond_false, Option.some.injEq] at h1
          subst h1
          obtain rfl := Nat.eq_of_beq_eq_true hj
          simp only [Exit.inBlock, if_true]
          exact hQ _ _ _ hkp' ⟨rfl, hf⟩
        | false =>
          rw [hj] at h1
          simp only [br, cond_true, cond_false, Option.some.injEq] at h1
          subst h1
          have hne : j ≠ id := by rintro rfl; simp at hj
          simp only [Exit.inBlock, if_neg hne]
          exact hQ _ _ _ hkp' ⟨rfl, hf⟩
    | r q =>
      simp only at h1
      cases hx : outB n σ' c with
      | none => simp [hx] at h1
      | some b =>
        simp only [hx, Option.some.injEq] at h1
        subst h1
        exact hQ _ _ _ hkp' ⟨rfl, σ', h2, hx⟩

theorem once_ok {P : Program} {rs : List Ty} {rv : List ResultVar} {C : Ctx} {σ0 : St} {asg : List Nat} {c : Cut} {id n bb ff m : Nat} {kv : denL (ktys c.ks)} {body : St → (Ex (denL rs) → St → Option (LO (denL rs) (denL (xtys c.xs)) (denL (btys c.xs)))) → Option (LO (denL rs) (denL (xtys c.xs)) (denL (btys c.xs)))} {code : Code} {a0 : Act}
    (hc : CutOk σ0 asg c) (htk : C.tk = []) (hk : KF C a0.tmps c.ks kv)
    (hbody : ∀ {σ K res w a Q}, body σ K = some res → Sat C σ w a → (∀ e σ' a' w', K e σ' = some res → SatE C rs rv e σ' w' a' → Keep asg a a' → Q (exitOf e) a' w') → code.wp P Q a w) {r : LO (denL rs) (denL (xtys c.xs)) (denL (btys c.xs))} {Q : Exit → Act → World → Prop}
    (hQ : ∀ e a' w', Keep asg a0 a' → OutL C rs rv n bb c kv r e a' w' → Q e a' w') {xv : denL (xtys c.xs)} {w : World}
    (he : loopF false id n bb ff c kv body m xv = some r) (hs : Sat C (fill n bb c.ks kv c.xs xv) w a0) : code.wp P (Exit.inBlock id Q) a0 w := by
  cases m with
  | zero => simp [loopF] at he
  | succ m =>
    simp only [loopF] at he
    refine hbody he hs fun e σ' a' w' h1 h2 h3 => ?_
    cases e with
    | n =>
      simp only at h1
      cases hx : outX n bb σ' c with
      | none => simp [hx] at h1
      | some b =>
        simp only [hx, Option.some.injEq] at h1
        subst h1
        exact hQ _ _ _ h3 ⟨rfl, refill hc htk h2 hx hk h3⟩
    | e j =>
      simp only at h1
      cases hx : outX n bb σ' c with
      | none => simp [hx] at h1
      | some b =>
        simp only [hx] at h1
        have hf := refill hc htk h2 hx hk h3
        show Exit.inBlock id Q (.exit j) a' w'
        cases hj : Nat.beq j id with
        | true =>
          rw [hj] at h1
          simp only [br, cond_true, cond_false, Option.some.injEq] at h1
          subst h1
          obtain rfl := Nat.eq_of_beq_eq_true hj
          simp only [Exit.inBlock, if_true]
          exact hQ _ _ _ h3 ⟨rfl, hf⟩
        | false =>
          rw [hj] at h1
          simp only [br, cond_true, cond_false, Option.some.injEq] at h1
          subst h1
          have hne : j ≠ id := by rintro rfl; simp at hj
          simp only [Exit.inBlock, if_neg hne]
          exact hQ _ _ _ h3 ⟨rfl, hf⟩
    | r q =>
      simp only at h1
      cases hx : outB n σ' c with
      | none => simp [hx] at h1
      | some b =>
        simp only [hx, Option.some.injEq] at h1
        subst h1
        exact hQ _ _ _ h3 ⟨rfl, σ', h2, hx⟩

/-- the same, of code that is no block -/
theorem once2_ok {P : Program} {rs : List Ty} {rv : List ResultVar} {C : Ctx} {σ0 : St} {asg : List Nat} {c : Cut} {id n bb ff m : Nat} {kv : denL (ktys c.ks)} {body : St → (Ex (denL rs) → St → Option (LO (denL rs) (denL (xtys c.xs)) (denL (btys c.xs)))) → Option (LO (denL rs) (denL (xtys c.xs)) (denL (btys c.xs)))} {code : Code} {a0 : Act}
    (hc : CutOk σ0 asg c) (htk : C.tk = []) (hk : KF C a0.tmps c.ks kv)
    (hbody : ∀ {σ K res w a Q}, body σ K = some res → Sat C σ w a → (∀ e σ' a' w', K e σ' = some res → (∀ j, e = .e j → j ≠ id) → SatE C rs rv e σ' w' a' → Keep asg a a' → Q (exitOf e) a' w') → code.wp P Q a w) {r : LO (denL rs) (denL (xtys c.xs)) (denL (btys c.xs))} {Q : Exit → Act → World → Prop}
    (hQ : ∀ e a' w', Keep asg a0 a' → OutL C rs rv n bb c kv r e a' w' → Q e a' w') {xv : denL (xtys c.xs)} {w : World}
    (he : loopF false id n bb ff c kv body m xv = some r) (hs : Sat C (fill n bb c.ks kv c.xs xv) w a0) : code.wp P Q a0 w := by
  cases m with
  | zero => simp [loopF] at he
  | succ m =>
    simp only [loopF] at he
    refine hbody he hs fun e σ' a' w' h1 hne h2 h3 => ?_
    cases e with
    | n =>
      simp only at h1
      cases hx : outX n bb σ' c with
      | none => simp [hx] at h1
      | some b =>
        simp only [hx, Option.some.injEq] at h1
        subst h1
        exact hQ _ _ _ h3 ⟨rfl, refill hc htk h2 hx hk h3⟩
    | e j =>
      simp only at h1
      cases hx : outX n bb σ' c with
      | none => simp [hx] at h1
      | some b =>
        simp only [hx] at h1
        have hj : Nat.beq j id = false := nbeq (hne j rfl)
        rw [hj] at h1
        simp only [br, cond_true, cond_false, Option.some.injEq] at h1
        subst h1
        exact hQ _ _ _ h3 ⟨rfl, refill hc htk h2 hx hk h3⟩
    | r q =>
      simp only at h1
      cases hx : outB n σ' c with
      | none => simp [hx] at h1
      | some b =>
        simp only [hx, Option.some.injEq] at h1
        subst h1
        exact hQ _ _ _ h3 ⟨rfl, σ', h2, hx⟩

end Go.Proofs.YtkfikongenapfaaDoor.E

namespace Go.Proofs.YtkfikongenapfaaDoor.E
open Go
set_option linter.unusedSimpArgs false
set_option linter.unusedVariables false
/-! what comes to the same whatever the memory holds -/
def Fix {α : Type} (P : Program) (s : Sem α) : Prop := ∀ w v w1, s.run P w = .ok v w1 → ∀ w', s.run P w' = .ok v w'

def Never {α : Type} (P : Program) (s : Sem α) : Prop := ∀ w v w1, s.run P w ≠ .ok v w1

section
variable {P : Program}
theorem fix_never {α : Type} {s : Sem α} (h : Never P s) : Fix P s := fun w v w1 e => (h w v w1 e).elim

theorem fix_pure {α : Type} (a : α) : Fix P (pure a : Sem α) := fun w v w1 h w' => by
  simp only [Sem.run_pure, Result.ok.injEq] at h ⊢
  exact ⟨h.1, trivial⟩

theorem andThen_some {α β : Type} {r : Result α} {f : α → World → Result β} {b : β} {w : World} (h : Result.andThen r f = .ok b w) : ∃ a w1, r = .ok a w1 ∧ f a w1 = .ok b w := by
  cases r with
  | ok a w1 => exact ⟨a, w1, rfl, h⟩
  | halt x w1 => cases h

theorem fix_bind {α β : Type} {s : Sem α} {f : α → Sem β} (h1 : Fix P s) (h2 : ∀ a, Fix P (f a)) : Fix P (s >>= f) := by
  intro w v w1 h w'
  rw [Sem.run_bind] at h ⊢
  obtain ⟨a, w2, h3, h4⟩ := andThen_some h
  rw [h1 w a w2 h3 w', Result.andThen_ok]
  exact h2 a w2 v w1 h4 w'

theorem never_bind {α β : Type} {s : Sem α} {f : α → Sem β} (h2 : ∀ a, Never P (f a)) : Never P (s >>= f) := by
  intro w v w1 h
  rw [Sem.run_bind] at h
  obtain ⟨a, w2, h3, h4⟩ := andThen_some h
  exact h2 a w2 v w1 h4

theorem never_stuck {α : Type} (s : String) : Never P (stuck s : Sem α) := fun w v w1 h => by simp [stuck, Sem.run] at h

theorem never_unsup {α : Type} (s : Unsupported) : Never P (unsupported s : Sem α) := fun w v w1 h => by simp [unsupported, Sem.run] at h

theorem never_go {α : Type} (x : Value) : Never P (goPanic x : Sem α) := fun w v w1 h => by simp [goPanic, Sem.run] at h

theorem never_panic {α : Type} (e : RuntimeError) : Never P (runtimePanic e : Sem α) := by
  unfold runtimePanic
  refine never_bind fun p => ?_
  cases e
  case typeAssertion i c a m => exact never_bind fun _ => never_bind fun _ => never_go _
  case panicNil => exact never_bind fun _ => never_bind fun _ => never_go _
  all_goals exact never_go _

theorem never_bounds {α : Type} (k : IntKind) (x y : Int) (c : BoundsCode) : Never P (boundsPanic k x y c : Sem α) := by
  unfold boundsPanic
  dsimp only
  split
  · exact never_bind fun _ => never_panic _
  · exact never_bind fun _ => never_panic _

theorem fix_program : Fix P (program : Sem Program) := fun w v w1 h w' => by
  simp only [program, Sem.run, Result.ok.injEq] at h ⊢
  exact ⟨h.1, trivial⟩

theorem fix_under (t : TypeId) : Fix P (underlying t) := by
  unfold underlying
  refine fix_bind fix_program fun p => ?_
  split
  · exact fix_pure _
  · exact fix_never (never_stuck _)

theorem fix_info (t : TypeId) : Fix P (typeInfo t) := by
  unfold typeInfo
  refine fix_bind fix_program fun p => ?_
  split
  · exact fix_pure _
  · exact fix_never (never_stuck _)

theorem fix_size (t : TypeId) : Fix P (sizeOf t) := fix_bind (fix_info t) fun _ => fix_pure _

theorem fix_agg (t : TypeId) : Fix P (isAgg t) := by
  unfold isAgg
  refine fix_bind (fix_under t) fun d => ?_
  split <;> exact fix_pure _

theorem fix_asBool (v : Value) : Fix P (asBool v) := by
  unfold asBool
  split
  · exact fix_pure _
  · exact fix_never (never_stuck _)

theorem fix_asInt (v : Value) : Fix P (asIntOf v) := by
  unfold asIntOf
  split
  · exact fix_pure _
  · exact fix_never (never_unsup _)
  · exact fix_never (never_stuck _)

theorem fix_asAgg (v : Value) : Fix P (asAgg v) := by
  unfold asAgg
  split
  · exact fix_pure _
  · exact fix_never (never_stuck _)

theorem fix_sure (v : Value) : Fix P (Instr.sureAddr v) := by
  unfold Instr.sureAddr
  split
  · exact fix_pure _
  · exact fix_never (never_stuck _)

theorem fix_part (t : TypeId) (cs : Array Value) (o : Nat) : Fix P (part t cs o) := by
  unfold part
  refine fix_bind (fix_agg t) fun b => ?_
  split
  · exact fix_bind (fix_size t) fun _ => fix_pure _
  · split
    · exact fix_pure _
    · exact fix_never (never_stuck _)

theorem fix_field (t : TypeId) (v : Value) (f : Nat) : Fix P (Instr.field t v f) := by
  unfold Instr.field
  refine fix_bind (fix_under t) fun d => ?_
  split
  · split
    · exact fix_bind (fix_asAgg v) fun _ => fix_part _ _ _
    · exact fix_never (never_stuck _)
  · exact fix_never (never_stuck _)

theorem fix_extract (v : Value) (i : Nat) : Fix P (Instr.extract v i) := by
  unfold Instr.extract
  split
  · split
    · exact fix_pure _
    · exact fix_never (never_stuck _)
  · exact fix_never (never_stuck _)

theorem fix_index (t : TypeId) (x i : Value) : Fix P (Instr.index t x i) := by
  unfold Instr.index
  refine fix_bind (fix_asInt i) fun p => ?_
  obtain ⟨k, i⟩ := p
  refine fix_bind (fix_under t) fun d => ?_
  split
  · split
    · exact fix_bind (fix_size _) fun _ => fix_part _ _ _
    · exact fix_never (never_bounds _ _ _ _)
  · split
    · exact fix_pure _
    · exact fix_never (never_bounds _ _ _ _)
  · exact fix_never (never_stuck _)

theorem fix_indexAt (t : TypeId) (x i : Value) : Fix P (Instr.indexAt t x i) := by
  unfold Instr.indexAt
  refine fix_bind (fix_asInt i) fun p => ?_
  obtain ⟨k, i⟩ := p
  refine fix_bind (fix_under t) fun d => ?_
  have tail : ∀ (base : Option Addr) (len : Nat) (elem : TypeId), Fix P (do
      let d2 ← underlying t
      let tiny : Bool := decide (len ≤ 1) && match d2 with | .array .. => true | _ => false
      match base with
        | some a =>
          if 0 ≤ i ∧ i < (len : Int) then do pure (.pointer (some (a.add (i.toNat * (← sizeOf elem)))))
          else if tiny then unsupported (.noEntry "op/indexAddr.an index out of range at an array of length 0 or 1 (ledger 616)")
          else boundsPanic k i len .index
        | none => boundsPanic k i 0 .index : Sem Value) := by
    intro base len elem
    refine fix_bind (fix_under t) fun d2 => ?_
    dsimp only
    repeat' split
    all_goals first | exact fix_bind (fix_size _) fun _ => fix_pure _ | exact fix_never (never_unsup _) | exact fix_never (never_bounds _ _ _ _)
  dsimp only
  split
  · exact fix_bind (fix_sure _) fun a => fix_bind (fix_pure _) fun q => tail q.1 q.2.1 q.2.2
  · exact fix_bind (fix_pure _) fun q => tail q.1 q.2.1 q.2.2
  · exact fix_bind (fix_never (never_stuck _)) fun q => tail q.1 q.2.1 q.2.2

theorem fix_len {t ty : TypeId} {v : Value} (hv : (∃ s, v = .string s) ∨ ∃ a n c, v = .slice a n c) : Fix P (Builtin.len_ #[t] ty #[v]) := by
  unfold Builtin.len_
  have fin : ∀ arr : TypeId, Fix P (do
      let .array n _ ← underlying arr | stuck "len: pointer to array expected"
      pure (goInt n) : Sem Value) := by
    intro arr
    refine fix_bind (fix_under _) fun d2 => ?_
    split
    · exact fix_pure _
    · exact fix_never (never_stuck _)
  rcases hv with ⟨s, rfl⟩ | ⟨a, n, c, rfl⟩
  · refine fix_bind (fix_under t) fun d => ?_
    cases d <;> first | exact fix_pure _ | exact fix_never (never_stuck _) | exact fin _
  · refine fix_bind (fix_under t) fun d => ?_
    cases d <;> first | exact fix_pure _ | exact fix_never (never_stuck _) | exact fin _

theorem fix_unary (op : UnOp) (v : Value) : Fix P (Op.unary op v) := by
  unfold Op.unary
  split
  · exact fix_pure _
  · exact fix_pure _
  · exact fix_pure _
  · exact fix_pure _
  · exact fix_pure _
  · exact fix_never (never_unsup _)
  · exact fix_never (never_unsup _)
  · exact fix_never (never_stuck _)

end
section
variable {C : Ctx} {I : Set'} {β : Nat → Value} {F : Nat → List Nat} {σ : St} {w : World} {tm : Array Value}
theorem fix_fieldAt {t : TypeId} {f : Nat} (h : fldNZ C.T t f = true) (v : Value) : Fix C.P (Instr.fieldAt t v f) := by
  unfold fldNZ at h
  split at h
  · rename_i fs hu
    split at h
    · rename_i fd hfd
      rw [nthF_eq] at hfd
      have hfd' : fs[f]? = some fd := by simpa using hfd
      have hfp : ∀ a, Fix C.P (fieldPlace a fd) := by
        intro a
        unfold szNZ at h
        split at h
        · rename_i i hi
          have hsz : szB C.T fd.type i.size = true := by simp [szB, hi]
          have hne : i.size ≠ 0 := by intro e; rw [e] at h; simp at h
          intro w u w1 h1 w'
          simp only [fieldPlace, Sem.run_bind, run_size hsz, Result.andThen_ok, if_neg hne, Sem.run_pure, Result.ok.injEq] at h1 ⊢
          exact ⟨h1.1, trivial⟩
        · cases h
      have rest : Fix C.P (do let a ← Instr.sureAddr v; pure (.pointer (some (← fieldPlace a fd))) : Sem Value) := fix_bind (fix_sure v) fun a => fix_bind (hfp a) fun _ => fix_pure _
      intro w u w1 h1 w'
      simp only [Instr.fieldAt, Sem.run_bind, run_underlying (und_ok hu), Result.andThen_ok, hfd'] at h1 ⊢
      have := rest w u w1 (by simpa only [Sem.run_bind] using h1) w'
      simpa only [Sem.run_bind] using this
    · cases h
  · cases h

theorem fix_v {s : Sem Value} (h : Fix C.P s) : Fix C.P (do pure (.value (← s)) : Sem Next) := fix_bind h fun _ => fix_pure _

theorem steady_fix (hi : Inv C I β F σ w tm) {E' : Env} (hT : E'.T = C.T) (hG : E'.G = C.G) {f : FuncId} {o : Oper} (hs : steadyB E' σ o = true) {sv : SV} {σ' : St} (he : opD E' f none o σ = some (true, sv, σ')) : Fix C.P (execOp (evT tm) o) := by
  have hg : Gok tm none := fun d w h => by cases h
  unfold steadyB at hs
  rw [hT, hG] at hs
  cases ho : o.op with
  | move x => unfold execOp; simp only [ho]; exact fix_pure _
  | assign x => unfold execOp; simp only [ho]; exact fix_pure _
  | pick c a b => unfold execOp; simp only [ho]; exact fix_bind (fix_asBool _) fun _ => fix_pure _
  | unOp op t x => unfold execOp; simp only [ho]; exact fix_v (fix_unary _ _)
  | extract x i => unfold execOp; simp only [ho]; exact fix_v (fix_extract _ _)
  | field t x i => unfold execOp; simp only [ho]; exact fix_v (fix_field _ _ _)
  | indexAddr t x i => unfold execOp; simp only [ho]; exact fix_v (fix_indexAt _ _ _)
  | index t x i => unfold execOp; simp only [ho]; exact fix_v (fix_index _ _ _)
  | makeFunc fn a b => unfold execOp; simp only [ho]; exact fix_v (fix_pure _)
  | fieldAddr t x fd =>
    simp only [ho] at hs
    unfold execOp; simp only [ho]; exact fix_v (fix_fieldAt hs _)
  | nilCheck x =>
    simp only [ho] at hs
    have ha := arg_ok hi hg x
    have hp : ∃ a, evT tm x = .pointer (some a) := by
      split at hs
      · rename_i r s hr
        rw [hr] at ha
        obtain ⟨R, o, u, b, base, arr, E', fr, _, _, _, hv, _⟩ := place hi ha
        exact ⟨_, hv⟩
      · rename_i l t y hr
        rw [hr] at ha
        obtain ⟨b, o, arr, E', fr, hv, _⟩ := q_val ha
        exact ⟨_, hv⟩
      · cases hs
    obtain ⟨a, hp⟩ := hp
    unfold execOp; simp only [ho, hp]; exact fix_pure _
  | binOp op t x y q =>
    simp only [ho] at hs
    have ha := arg_ok hi hg x
    have hb := arg_ok hi hg y
    unfold opD at he
    simp only [ho, hT, hG] at he
    split at hs
    · rename_i l1 k n l2 j m hx hy
      rw [hx] at ha; rw [hy] at hb
      have e1 := of_int ha
      have e2 := of_int hb
      rw [hx, hy] at he
      unfold opBin at he
      simp only at he
      split at he
      · rename_i hk
        cases hbin : bin op k n m with
        | none => simp [hbin] at he
        | some p =>
          obtain ⟨c, sv'⟩ := p
          simp only [hbin, Option.some.injEq, Prod.mk.injEq] at he
          obtain ⟨rfl, rfl, rfl⟩ := he
          intro w1 v w2 h w'
          have key : ∀ w, ∃ u, (execOp (evT tm) o).run C.P w = .ok (.value u) w ∧ SVR (hpOf w1) C.L I β σ.r sv' u := by
            intro w
            obtain ⟨u, g1, g2⟩ := bin_ok (C := C) (h := hpOf w1) (L := C.L) (I := I) (β := β) (ρ := σ.r) hk hbin t w
            refine ⟨u, ?_, g2⟩
            unfold execOp
            simp only [ho, e1, e2, Sem.run_bind, eqGuard_int, Result.andThen_ok, g1, Sem.run_pure]
          obtain ⟨u1, g1, g2⟩ := key w1
          obtain ⟨u2, g3, g4⟩ := key w'
          rw [g1] at h
          have hu : u2 = u1 := by
            cases op <;> simp only [bin, Option.some.injEq, Prod.mk.injEq] at hbin <;> (obtain ⟨_, rfl⟩ := hbin; first | exact (of_int g4).trans (of_int g2).symm | exact (of_bool g4).trans (of_bool g2).symm)
          rw [g3, hu]
          simp only [Result.ok.injEq] at h ⊢
          exact ⟨h.1, trivial⟩
      · simp at he
    · rename_i l1 n l2 m hx hy
      rw [hx] at ha; rw [hy] at hb
      have e1 := of_str ha
      have e2 := of_str hb
      rw [hx, hy] at he
      unfold opBin at he
      simp only at he
      cases hbin : binStr op n m with
      | none => simp [hbin] at he
      | some p =>
        obtain ⟨c, sv'⟩ := p
        simp only [hbin, Option.some.injEq, Prod.mk.injEq] at he
        obtain ⟨rfl, rfl, rfl⟩ := he
        intro w1 v w2 h w'
        have key : ∀ w, ∃ u, (execOp (evT tm) o).run C.P w = .ok (.value u) w ∧ SVR (hpOf w1) C.L I β σ.r sv' u := by
          intro w
          obtain ⟨u, g1, g2⟩ := binStr_ok (C := C) (h := hpOf w1) (L := C.L) (I := I) (β := β) (ρ := σ.r) hbin t w
          refine ⟨u, ?_, g2⟩
          unfold execOp
          simp only [ho, e1, e2, Sem.run_bind, eqGuard_str, Result.andThen_ok, g1, Sem.run_pure]
        obtain ⟨u1, g1, g2⟩ := key w1
        obtain ⟨u2, g3, g4⟩ := key w'
        rw [g1] at h
        have hu : u2 = u1 := by
          cases op <;> simp only [binStr, Option.some.injEq, Prod.mk.injEq, reduceCtorEq] at hbin <;> (obtain ⟨_, rfl⟩ := hbin; first | exact (of_str g4).trans (of_str g2).symm | exact (of_bool g4).trans (of_bool g2).symm)
        rw [g3, hu]
        simp only [Result.ok.injEq] at h ⊢
        exact ⟨h.1, trivial⟩
    · cases hs
  | convert s t x =>
    simp only [ho] at hs
    have ha := arg_ok hi hg x
    unfold opD at he
    simp only [ho, hT, hG] at he
    split at hs
    · rename_i k l j n hut hx
      rw [hx] at ha
      have e1 := of_int ha
      rw [hx] at he
      unfold opConv at he
      cases hus : und C.T s with
      | none => simp [hus] at he
      | some ds =>
        unfold execOp
        simp only [ho]
        refine fix_v ?_
        rw [e1]
        intro w1 v w2 h w'
        rw [conv_int (und_ok hus) (und_ok hut)] at h ⊢
        simp only [Result.ok.injEq] at h ⊢
        exact ⟨h.1, trivial⟩
    · cases hs
  | call c =>
    simp only [ho] at hs
    split at hs
    · rename_i x hcal hargs
      have ha := arg_ok hi hg x
      have hv : (∃ s, evT tm x = .string s) ∨ ∃ a n c, evT tm x = .slice a n c := by
        split at hs
        · rename_i l s hx; rw [hx] at ha; exact .inl ⟨_, of_str ha⟩
        · rename_i l ow t xs hx
          rw [hx] at ha
          obtain ⟨cs, hr, hv, _⟩ := ha
          obtain ⟨a, c, e, _⟩ := hr
          rw [hv, e]
          exact .inr ⟨_, _, _, rfl⟩
        · rename_i r hx
          rw [hx] at ha
          obtain ⟨f', l, t, xs, h1, h2⟩ := ha
          obtain ⟨a, c, e1, _⟩ := sl_shape (hi.roots r _ h1).1
          exact .inr ⟨_, _, _, h2.trans e1⟩
        · rename_i r lo n hx
          rw [hx] at ha
          obtain ⟨f', l, t, xs, h1, h2, a, m, c, a', c', _, h3, _⟩ := ha
          exact .inr ⟨_, _, _, h3⟩
        · rename_i hx
          rw [hx] at ha
          obtain ⟨a, h⟩ : ∃ a, evT tm x = .slice a 0 0 := ha
          exact .inr ⟨_, _, _, h⟩
        · cases hs
      unfold opD at he
      simp only [ho, hcal, hargs, hT, hG] at he
      split at he
      · rename_i x' t hx' hat
        simp only [List.cons.injEq, and_true] at hx'
        subst hx'
        have h1 : c.argTypes = #[t] := Array.toList_inj.1 hat
        have hrun : ∀ w, (execOp (evT tm) o).run C.P w = ((do pure (.value (← Builtin.len_ #[t] o.type #[evT tm x])) : Sem Next)).run C.P w := by
          intro w
          obtain ⟨k, hk⟩ := exec_builtin (C := C) (tm := tm) ho hcal w
          rw [hk, map_toList (f := evT tm) hargs, h1]
          rfl
        intro w1 v w2 h w'
        rw [hrun] at h ⊢
        exact fix_v (fix_len hv) w1 v w2 h w'
      · simp at he
    · cases hs
  | _ => simp [ho] at hs

/-- a steady operation: its value, whatever the memory holds -/
theorem steady_ok (hi : Inv C I β F σ w tm) {E' : Env} (hT : E'.T = C.T) (hG : E'.G = C.G) {f : FuncId} {o : Oper} (hq : quietO E'.T o = true) (hs : steadyB E' σ o = true) {sv : SV} {σ' : St} (he : opD E' f none o σ = some (true, sv, σ')) :
    ∃ v, (∀ w', (execOp (evT tm) o).run C.P w' = .ok (.value v) w') ∧ SVR (hpOf w) C.L I β σ.r sv v := by
  obtain ⟨v, h1, _, h2⟩ := opQ_ok hi (fun d w h => by cases h) hT hG hq he
  exact ⟨v, steady_fix hi hT hG hs he w _ w h1, h2⟩

end
end Go.Proofs.YtkfikongenapfaaDoor.E

namespace Go.Proofs.YtkfikongenapfaaDoor.E
open Go
set_option linter.unusedSimpArgs false
set_option linter.unusedVariables false
/-! regions whose order is drawn -/
theorem tb_eq (m n : Nat) : tb m n = m.testBit n := by
  unfold tb Nat.testBit
  have h : Nat.land (Nat.shiftRight m n) 1 = 1 &&& (m >>> n) := by
    show (m >>> n) &&& 1 = 1 &&& (m >>> n)
    exact Nat.and_comm _ _
  rw [h]
  have h2 : (1 &&& (m >>> n)) = 0 ∨ (1 &&& (m >>> n)) = 1 := by
    rw [Nat.and_comm, Nat.and_one_is_mod]; omega
  rcases h2 with h2 | h2 <;> rw [h2] <;> rfl

theorem tb_set (m i j : Nat) : tb (setB m i) j = (tb m j || decide (i = j)) := by
  rw [tb_eq, tb_eq]
  have : setB m i = m ||| (1 <<< i) := rfl
  rw [this, Nat.testBit_or, Nat.one_shiftLeft, Nat.testBit_two_pow]

theorem tb_zero (j : Nat) : tb 0 j = false := by rw [tb_eq]; simp

theorem edgesIn_iff {m : Nat} : ∀ {l : List Edge}, edgesIn m l = true ↔ ∀ e ∈ l, Region.binds .any e = true → tb m e.on = true
  | [] => by simp [edgesIn]
  | e :: l => by
    simp only [edgesIn, Bool.and_eq_true, Bool.or_eq_true, Bool.not_eq_true', List.mem_cons, forall_eq_or_imp, edgesIn_iff (l := l)]
    constructor
    · rintro ⟨h1, h2⟩
      refine ⟨fun hb => ?_, h2⟩
      rcases h1 with h1 | h1
      · rw [h1] at hb; cases hb
      · exact h1
    · rintro ⟨h1, h2⟩
      refine ⟨?_, h2⟩
      cases hb : Region.binds .any e with
      | true => exact .inr (h1 hb)
      | false => exact .inl rfl

theorem readyM_iff {m i : Nat} : ∀ {l : List Oper} {k : Nat}, i ∈ readyM m l k ↔ ∃ j o, i = k + j ∧ l[j]? = some o ∧ tb m i = false ∧ edgesIn m o.after.toList = true
  | [], k => by simp [readyM]
  | o :: l, k => by
    have rec' : i ∈ readyM m l (k + 1) ↔ ∃ j o', i = k + (j + 1) ∧ (o :: l)[j + 1]? = some o' ∧ tb m i = false ∧ edgesIn m o'.after.toList = true := by
      rw [readyM_iff (l := l) (k := k + 1)]
      constructor
      · rintro ⟨j, o', h1, h2⟩; exact ⟨j, o', by omega, by simpa using h2⟩
      · rintro ⟨j, o', h1, h2⟩; exact ⟨j, o', by omega, by simpa using h2⟩
    simp only [readyM]
    cases hb : (!(tb m k) && edgesIn m o.after.toList) with
    | true =>
      simp only [Bool.and_eq_true, Bool.not_eq_true'] at hb
      simp only [List.mem_cons, rec']
      constructor
      · rintro (rfl | ⟨j, o', h1, h2⟩)
        · exact ⟨0, o, by omega, rfl, hb.1, hb.2⟩
        · exact ⟨j + 1, o', h1, h2⟩
      · rintro ⟨j, o', h1, h2, h3⟩
        cases j with
        | zero => exact .inl (by omega)
        | succ j => exact .inr ⟨j, o', h1, h2, h3⟩
    | false =>
      simp only [rec']
      constructor
      · rintro ⟨j, o', h1, h2⟩; exact ⟨j + 1, o', h1, h2⟩
      · rintro ⟨j, o', h1, h2, h3, h4⟩
        cases j with
        | zero =>
          simp at h2
          subst h2
          simp only [Nat.add_zero] at h1
          subst h1
          rw [h3, h4] at hb; cases hb
        | succ j => exact ⟨j, o', h1, h2, h3, h4⟩

/-- what is listed, as a number -/
structure Rel (ops : Array Oper) (listed : Array Bool) (m : Nat) : Prop where
  size : listed.size = ops.size
  bits : ∀ j, listed.getD j false = tb m j
theorem Rel.ready {ops : Array Oper} {listed : Array Bool} {m : Nat} (h : Rel ops listed m) (i : Nat) : i ∈ Region.ready .any ops listed ↔ i ∈ readyM m ops.toList 0 := by
  rw [mem_ready, readyM_iff]
  have hbit : i < ops.size → listed.getD i true = tb m i := fun hi => by
    rw [← h.bits i]
    have : i < listed.size := by rw [h.size]; exact hi
    simp [this]
  constructor
  · rintro ⟨h1, o, h2, h3⟩
    have hi : i < ops.size := (Array.getElem?_eq_some_iff.1 h2).1
    refine ⟨i, o, by omega, by simpa using h2, by rw [← hbit hi]; exact h1, edgesIn_iff.2 fun e he hb => ?_⟩
    rw [← h.bits]; exact h3 e (by simpa using he) hb
  · rintro ⟨j, o, h1, h2, h3, h4⟩
    have e : i = j := by omega
    subst e
    have h2' : ops[i]? = some o := by simpa using h2
    have hi : i < ops.size := (Array.getElem?_eq_some_iff.1 h2').1
    exact ⟨by rw [hbit hi]; exact h3, o, h2', fun e he hb => by rw [h.bits]; exact edgesIn_iff.1 h4 e (by simpa using he) hb⟩

theorem Rel.set {ops : Array Oper} {listed : Array Bool} {m i : Nat} (h : Rel ops listed m) (hi : i < ops.size) : Rel ops (listed.setIfInBounds i true) (setB m i) := by
  refine ⟨by simp [h.size], fun j => ?_⟩
  rw [tb_set]
  by_cases e : i = j
  · subst e
    have : i < listed.size := by rw [h.size]; exact hi
    simp [this]
  · rw [getD_set_ne false e, h.bits]; simp [e]

theorem Rel.zero (ops : Array Oper) : Rel ops (Array.replicate ops.size false) 0 := by
  refine ⟨by simp, fun j => ?_⟩
  rw [tb_zero]
  rcases Nat.lt_or_ge j ops.size with h | h
  · simp [h]
  · simp [Nat.not_lt.2 h]

theorem forceN_eq {R : Type} (n : Nat) (K : Nat → R) : forceN n K = K n := by cases n <;> rfl

theorem allM_some {R : Type} {run : Nat → Option R} {r : R} : ∀ {l : List Nat}, allM run l = some r → ∀ i ∈ l, run i = some r
  | [], _, i, hi => by simp at hi
  | [a], h, i, hi => by
    simp at hi
    subst hi
    exact h
  | a :: b :: l, h, i, hi => by
    obtain ⟨h1, h2⟩ := both_some (A := run a) (B := allM run (b :: l)) h
    rcases List.mem_cons.1 hi with rfl | hi
    · exact h1
    · exact allM_some h2 i hi

theorem firstM_some {E' : Env} {all : List Oper} {σ : St} {m i : Nat} : ∀ {l : List Nat}, firstM E' all σ m l = some i → i ∈ l ∧ ∃ o, nthO all i = some o ∧ quietO E'.T o = true ∧ steadyB E' σ o = true ∧ freeM all m i o all 0 = true
  | [], h => by simp [firstM] at h
  | k :: l, h => by
    simp only [firstM] at h
    cases ho : nthO all k with
    | none =>
      simp only [ho] at h
      obtain ⟨h1, h2⟩ := firstM_some h
      exact ⟨by simp [h1], h2⟩
    | some o =>
      simp only [ho] at h
      cases hb : (quietO E'.T o && steadyB E' σ o && freeM all m k o all 0) with
      | true =>
        simp only [hb, Option.some.injEq] at h
        subst h
        simp only [Bool.and_eq_true] at hb
        exact ⟨by simp, o, ho, hb.1.1, hb.1.2, hb.2⟩
      | false =>
        simp only [hb] at h
        obtain ⟨h1, h2⟩ := firstM_some h
        exact ⟨by simp [h1], h2⟩

theorem selO_op {o : Oper} (h : selO o = false) : ∀ cs b, o.op ≠ .select cs b := by
  intro cs b e
  unfold selO at h
  rw [e] at h; cases h

theorem noSel_mem {l : List Oper} : noSel l = true → ∀ o ∈ l, selO o = false := by
  induction l with
  | nil => intro _ o ho; simp at ho
  | cons y l ih =>
    intro h o ho
    have h' : (!(selO y) && noSel l) = true := h
    rw [Bool.and_eq_true, Bool.not_eq_true'] at h'
    rcases List.mem_cons.1 ho with e | ho
    · rw [e]; exact h'.1
    · exact ih h'.2 o ho

theorem opSlots_mem {d : Nat} : ∀ {l : List Operand}, d ∈ opSlots l ↔ Operand.tmp d ∈ l
  | [] => by simp [opSlots]
  | .tmp t :: l => by simp [opSlots, opSlots_mem (l := l)]
  | .const _ :: l => by simp [opSlots, opSlots_mem (l := l)]
  | .func _ :: l => by simp [opSlots, opSlots_mem (l := l)]
  | .global _ :: l => by simp [opSlots, opSlots_mem (l := l)]

theorem looks_mem {ops : Array Oper} {o : Oper} {d : Nat} : (o.looksAt ops).contains d = natMem d (slotsAll ops.toList o) := by
  have hf : ∀ l : List Operand, (d ∈ l.filterMap fun | .tmp t => some t | _ => none) ↔ Operand.tmp d ∈ l := by
    intro l
    rw [List.mem_filterMap]
    constructor
    · rintro ⟨x, hx, h⟩
      cases x <;> simp at h
      subst h; exact hx
    · intro h; exact ⟨_, h, rfl⟩
  have h : d ∈ o.looksAt ops ↔ d ∈ slotsAll ops.toList o := by
    unfold Oper.looksAt slotsAll
    rw [List.mem_append]
    have e1 := hf o.op.operands.toList
    rw [← opSlots_mem] at e1
    cases hg : o.guard with
    | none =>
      simp only [List.not_mem_nil, or_false]
      exact e1
    | some p =>
      obtain ⟨j, w⟩ := p
      simp only
      rw [dstOf_eq]
      have e : (ops[j]?).bind (·.dst) = (ops.toList[j]?).bind (·.dst) := by simp
      rw [e]
      cases (ops.toList[j]?).bind (·.dst) with
      | none =>
        simp only [Option.toList_none, List.not_mem_nil, or_false]
        exact e1
      | some x =>
        simp only [Option.toList_some, List.mem_cons, List.not_mem_nil, or_false]
        rw [or_comm]
        exact or_congr_right e1
  cases h1 : natMem d (slotsAll ops.toList o) with
  | true => exact List.elem_eq_true_of_mem (h.2 (natMem_iff.1 h1))
  | false =>
    cases h2 : (o.looksAt ops).contains d with
    | false => rfl
    | true =>
      have := natMem_iff.2 (h.1 (List.contains_iff_mem.1 h2))
      rw [h1] at this; cases this

theorem apartO_ok {ops : Array Oper} {x y : Oper} (h : apartO ops.toList x y = true) : x.apart ops y = true := by
  unfold apartO at h
  unfold Oper.apart
  simp only [Bool.and_eq_true] at h ⊢
  refine ⟨?_, ?_⟩
  · have h1 := h.1
    cases hx : x.dst with
    | none => rfl
    | some d =>
      simp only [hx, Bool.and_eq_true, Bool.not_eq_true'] at h1 ⊢
      rw [looks_mem]
      refine ⟨h1.1, ?_⟩
      cases hy : y.dst with
      | none => rfl
      | some e =>
        have h2 := h1.2
        rw [hy] at h2
        simp only [eqO] at h2
        have : d ≠ e := by rintro rfl; simp at h2
        simp [Ne.symm this]
  · have h1 := h.2
    cases hy : y.dst with
    | none => rfl
    | some d =>
      simp only [hy, Bool.not_eq_true'] at h1 ⊢
      rw [looks_mem]
      exact h1

theorem hasEdge_mem {i : Nat} : ∀ {l : List Edge}, hasEdge i l = true → ∃ e ∈ l, e.on = i ∧ Region.binds .any e = true
  | [], h => by simp [hasEdge] at h
  | e :: l, h => by
    simp only [hasEdge, Bool.or_eq_true, Bool.and_eq_true] at h
    rcases h with h | h
    · exact ⟨e, by simp, Nat.eq_of_beq_eq_true h.2, h.1⟩
    · obtain ⟨e', h1, h2⟩ := hasEdge_mem h
      exact ⟨e', by simp [h1], h2⟩

theorem freeM_mem {all : List Oper} {m i : Nat} {o : Oper} : ∀ {l : List Oper} {k : Nat}, freeM all m i o l k = true → ∀ (j : Nat) (y : Oper), l[j]? = some y → (k + j = i ∨ tb m (k + j) = true ∨ hasEdge i y.after.toList = true ∨ apartO all o y = true)
  | [], _, _, j, y, h => by simp at h
  | z :: l, k, h, j, y, hy => by
    simp only [freeM, Bool.and_eq_true, Bool.or_eq_true] at h
    cases j with
    | zero =>
      simp at hy
      subst hy
      rcases h.1 with ((h | h) | h) | h
      · exact .inl (by have := Nat.eq_of_beq_eq_true h; omega)
      · exact .inr (.inl (by simpa using h))
      · exact .inr (.inr (.inl h))
      · exact .inr (.inr (.inr h))
    | succ j =>
      have := freeM_mem h.2 j y (by simpa using hy)
      rw [show k + (j + 1) = k + 1 + j by omega]
      exact this

/-- how many are not yet listed -/
def left (n : Nat) (listed : Array Bool) : Nat := ((List.range n).filter fun j => !listed.getD j true).length

theorem filter_lt {P P' : Nat → Bool} {i : Nat} : ∀ {l : List Nat}, (∀ x ∈ l, P' x = true → P x = true) → i ∈ l → P i = true → P' i = false → (l.filter P').length < (l.filter P).length
  | [], _, h, _, _ => by simp at h
  | k :: l, h, hi, h1, h2 => by
    have hle : ∀ m : List Nat, (∀ x ∈ m, P' x = true → P x = true) → (m.filter P').length ≤ (m.filter P).length := by
      intro m
      induction m with
      | nil => simp
      | cons x m ih =>
        intro hm
        have := ih (fun y hy => hm y (by simp [hy]))
        simp only [List.filter_cons]
        cases hp : P' x with
        | true => rw [hm x (by simp) hp]; simp; omega
        | false => cases P x <;> simp <;> omega
    simp only [List.filter_cons]
    rcases List.mem_cons.1 hi with rfl | hi
    · rw [h1, h2]
      have := hle l (fun y hy => h y (by simp [hy]))
      simp; omega
    · have := filter_lt (fun y hy => h y (by simp [hy])) hi h1 h2
      cases hp : P' k with
      | true => rw [h k (by simp) hp]; simp; omega
      | false => cases P k <;> simp <;> omega

theorem left_set {n i : Nat} {listed : Array Bool} (hi : i < n) (hl : listed.getD i true = false) : left n (listed.setIfInBounds i true) < left n listed := by
  have hlt : i < listed.size := by
    rcases Nat.lt_or_ge i listed.size with h | h
    · exact h
    · simp [Array.getElem?_eq_none h] at hl
  refine filter_lt (i := i) (fun j _ hj => ?_) (List.mem_range.2 hi) (by rw [hl]; rfl) (by simp [hlt])
  by_cases e : i = j
  · subst e; rw [hl]; rfl
  · rw [getD_set_ne true e] at hj; exact hj

section
variable {C : Ctx}
theorem runM_ok {R : Type} {E' : Env} {fn : E'.Fn} {inl : Inl} {f : FuncId} (hT : E'.T = C.T) (hG : E'.G = C.G) (hfn : FnOk C.P E' fn) (hin : InlOk C.P E' inl) (ops : Array Oper) (hsel : noSel ops.toList = true) {K : St → Option R} {res : R} {Q : Act → World → Prop} (a0 : Act)
    (hQ : ∀ σ' a' w', K σ' = some res → Sat C σ' w' a' → (∀ i, i ∉ dstL ops.toList → a'.tmps.getD i undef = a0.tmps.getD i undef) → Q a' w') :
    ∀ (fuel n m : Nat) {σ : St} {w : World} {a : Act} {listed : Array Bool}, Rel ops listed m → left ops.size listed ≤ fuel → Sat C σ w a → (∀ i, i ∉ dstL ops.toList → a.tmps.getD i undef = a0.tmps.getD i undef) → runM E' fn inl f ops.toList n m σ K = some res →
      wpAny C.P .any ops (fun e a w => e = .normal ∧ Q a w) fuel listed a w := by
  intro fuel
  induction fuel with
  | zero =>
    intro n m σ w a listed hrel hleft hs ht he
    have hr : Region.ready .any ops listed = [] := by
      cases hrd : Region.ready .any ops listed with
      | nil => rfl
      | cons i l =>
        have hi : i ∈ Region.ready .any ops listed := by rw [hrd]; simp
        obtain ⟨h1, o, ho, _⟩ := mem_ready.1 hi
        have := left_set (Array.getElem?_eq_some_iff.1 ho).1 h1
        omega
    refine ⟨hr, rfl, ?_⟩
    have hrm : readyM m ops.toList 0 = [] := by
      cases hq : readyM m ops.toList 0 with
      | nil => rfl
      | cons i l =>
        have : i ∈ Region.ready .any ops listed := (hrel.ready i).2 (by rw [hq]; simp)
        rw [hr] at this; cases this
    unfold runM at he
    rw [hrm] at he
    exact hQ σ a w he hs ht
  | succ fuel ih =>
    intro n m σ w a listed hrel hleft hs ht he
    -- an operation is done; the rest
    have hmem : ∀ {i : Nat} {o : Oper}, ops[i]? = some o → ∀ d, o.dst = some d → d ∈ dstL ops.toList := fun {i o} ho d hd => by
      have ho' : ops.toList[i]? = some o := by simpa using ho
      exact List.mem_filterMap.2 ⟨o, List.mem_of_getElem? ho', hd⟩
    have hkeep : ∀ {i : Nat} {o : Oper} {a' : Act}, ops[i]? = some o → (∀ j, some j ≠ o.dst → a'.tmps.getD j undef = a.tmps.getD j undef) → ∀ j, j ∉ dstL ops.toList → a'.tmps.getD j undef = a0.tmps.getD j undef := by
      intro i o a' ho h j hj
      rw [h j (fun e => hj (hmem ho j e.symm)), ht j hj]
    have hgo : ∀ {i : Nat} {o : Oper} {n : Nat} {σ' : St} {w' : World} {a' : Act}, i ∈ Region.ready .any ops listed → ops[i]? = some o → Sat C σ' w' a' → (∀ j, some j ≠ o.dst → a'.tmps.getD j undef = a.tmps.getD j undef) → (forceN (setB m i) fun m => runM E' fn inl f ops.toList n m σ' K) = some res →
        wpAny C.P .any ops (fun e a w => e = .normal ∧ Q a w) fuel (listed.setIfInBounds i true) a' w' := by
      intro i o n σ' w' a' hi ho hs' hk he'
      rw [forceN_eq] at he'
      have hsz : i < ops.size := (Array.getElem?_eq_some_iff.1 ho).1
      have := left_set hsz (mem_ready.1 hi).1
      exact ih n (setB m i) (hrel.set hsz) (by omega) hs' (hkeep ho hk) he'
    -- under its guard
    have hguard : ∀ {i : Nat} {o : Oper} {run : St → (St → Option R) → Option R} {K' : St → Option R}, ops[i]? = some o → stepG ops.toList o σ run K' = some res →
        (∃ σ1, Sat C σ1 w a ∧ run σ1 K' = some res ∧ Region.wanted o (yielded ops a.tmps) = true) ∨
        (∃ σ2, Sat C σ2 w (a.put o.dst undef) ∧ K' σ2 = some res ∧ Region.wanted o (yielded ops a.tmps) = false ∧ ∀ j, some j ≠ o.dst → (a.put o.dst undef).tmps.getD j undef = a.tmps.getD j undef) := by
      intro i o run K' ho hst
      unfold stepG at hst
      cases hgd : o.guard with
      | none =>
        simp only [hgd] at hst
        exact .inl ⟨σ, hs, hst, by simp [Region.wanted, hgd]⟩
      | some ju =>
        obtain ⟨j, u⟩ := ju
        simp only [hgd] at hst
        cases hd : dstOf ops.toList j with
        | none => simp [hd] at hst
        | some d =>
          simp only [hd] at hst
          split at hst
          · rename_i l b hf
            obtain ⟨hdf, I, β, F, hi⟩ := hs
            have hb : a.tmps.getD d undef = .bool b := by
              have := hi.slots d
              rw [hf] at this
              exact of_bool (b := b) this
            have hw : Region.wanted o (yielded ops a.tmps) = (b == u) := by simp [Region.wanted, hgd, yielded_some hd hb]
            have hlit : ∀ c, b = c → Inv C I β F { t := (d, .v false .bool c) :: σ.t, c := σ.c, r := σ.r, n := σ.n, b := σ.b, k := σ.k } w a.tmps := by
              rintro c rfl
              refine hi.reslot hi.size (fun i => ?_) hi.conds hi.undefs
              by_cases e : i = d
              · subst e; rw [find_cons_same, hb]; exact svr_bool
              · rw [find_cons_ne e]; exact hi.slots i
            have hbr := br_some hst
            clear hst
            rcases hbr with ⟨hbu, hst⟩ | ⟨hbu, hst⟩
            · obtain rfl := boolEq_iff hbu
              exact .inl ⟨_, ⟨hdf, I, β, F, hlit b rfl⟩, hst, by rw [hw]; simp⟩
            · have hbn : b = !u := by cases b <;> cases u <;> simp [boolEq] at hbu ⊢
              obtain ⟨σ2, g1, g2, g3⟩ := putK_ok (sv := .x) (v := undef) hdf (hlit (!u) hbn) trivial hst
              exact .inr ⟨σ2, g2, g1, by rw [hw, hbn]; cases u <;> rfl, g3⟩
          · cases hst
    unfold runM at he
    cases hrd : readyM m ops.toList 0 with
    | nil =>
      rw [hrd] at he
      have hr : Region.ready .any ops listed = [] := by
        cases hq : Region.ready .any ops listed with
        | nil => rfl
        | cons i l =>
          have : i ∈ readyM m ops.toList 0 := (hrel.ready i).1 (by rw [hq]; simp)
          rw [hrd] at this; cases this
      exact wpAny_done hr ⟨rfl, hQ σ a w he hs ht⟩ _
    | cons i0 l0 =>
      rw [hrd] at he
      simp only at he
      cases n with
      | zero => simp at he
      | succ n =>
        simp only at he
        have hready : ∀ i, i ∈ i0 :: l0 ↔ i ∈ Region.ready .any ops listed := fun i => by rw [hrel.ready i, hrd]
        cases hfm : firstM E' ops.toList σ m (i0 :: l0) with
        | some i =>
          simp only [hfm] at he
          obtain ⟨hi1, o, ho, hq, hst, hfr⟩ := firstM_some hfm
          simp only [ho] at he
          rw [nthO_eq] at ho
          have ho' : ops[i]? = some o := by simpa using ho
          have hir := (hready i).1 hi1
          have hsz : i < ops.size := (Array.getElem?_eq_some_iff.1 ho').1
          have hfree : ∀ j oj, ops[j]? = some oj → j ≠ i → listed.getD j true = false → (∀ e ∈ oj.after, Region.binds .any e = true → e.on ≠ i) → o.apart ops oj = true := by
            intro j oj hj hne hun hno
            have hj' : ops.toList[j]? = some oj := by simpa using hj
            rcases freeM_mem hfr j oj hj' with h | h | h | h
            · exact (hne (by omega)).elim
            · rw [Nat.zero_add, ← hrel.bits j] at h
              have hlt : j < listed.size := by rw [hrel.size]; exact (Array.getElem?_eq_some_iff.1 hj).1
              simp [hlt] at h hun
              rw [h] at hun; cases hun
            · obtain ⟨e, h1, h2, h3⟩ := hasEdge_mem h
              exact (hno e (by simpa using h1) h3 h2).elim
            · exact apartO_ok h
          have take : ∀ v σ', Yields C.P ops o v a → Sat C σ' w (a.put o.dst v) → (∀ j, some j ≠ o.dst → (a.put o.dst v).tmps.getD j undef = a.tmps.getD j undef) → (forceN (setB m i) fun m => runM E' fn inl f ops.toList n m σ' K) = some res →
              wpAny C.P .any ops (fun e a w => e = .normal ∧ Q a w) (fuel + 1) listed a w := by
            intro v σ' hy hs' hk he'
            have hselj : ∀ (j : Nat) (oj : Oper) cs b, ops[j]? = some oj → oj.op ≠ .select cs b := by
              intro j oj cs b hj
              have hj' : ops.toList[j]? = some oj := by simpa using hj
              exact selO_op (noSel_mem hsel oj (List.mem_of_getElem? hj')) cs b
            exact wpAny_first ho' hselj (fun c a w h => by cases h.1) fuel listed a w hfree hir hy (hgo hir ho' hs' hk he')
          rcases hguard ho' he with ⟨σ1, hs1, hrun, hw⟩ | ⟨σ2, hs2, hK, hw, hk⟩
          · unfold quietE at hrun
            cases hst1 : steadyB E' σ1 o with
            | false => simp [hst1] at hrun
            | true =>
            simp only [hst1] at hrun
            cases hop : opD E' f none o σ1 with
            | none => simp [hop] at hrun
            | some p =>
              obtain ⟨c, sv, σ''⟩ := p
              simp only [hop] at hrun
              have hbr := br_some hrun
              clear hrun
              rcases hbr with ⟨rfl, hrun⟩ | ⟨_, hrun⟩
              · obtain ⟨hdf, I, β, F, hi⟩ := hs1
                obtain ⟨v, h1, h2⟩ := steady_ok hi hT hG hq hst1 hop
                obtain ⟨σ', k1, k2, k3⟩ := putK_ok hdf hi h2 hrun
                exact take v σ' (.inl ⟨hw, fun w => by rw [act_eval]; exact h1 w⟩) k2 k3 k1
              · cases hrun
          · exact take undef σ2 (.inr ⟨hw, rfl⟩) hs2 hk hK
        | none =>
          simp only [hfm] at he
          have hall := allM_some he
          refine ⟨fun h0 => ?_, fun i hi => ?_⟩
          · have : i0 ∈ Region.ready .any ops listed := (hready i0).1 (by simp)
            rw [h0] at this; cases this
          · have he' := hall i ((hready i).2 hi)
            try simp only at he'
            cases ho : nthO ops.toList i with
            | none => simp [ho] at he'
            | some o =>
              simp only [ho] at he'
              rw [nthO_eq] at ho
              have ho' : ops[i]? = some o := by simpa using ho
              unfold wpOp
              simp only [ho']
              rcases hguard ho' he' with ⟨σ1, hs1, hrun, hw⟩ | ⟨σ2, hs2, hK, hw, hk⟩
              · simp only [hw, if_true]
                refine .inl ?_
                exact doOp_ok hT hG hfn hin hs1 hrun fun σ' a' w' h1 h2 h3 => hgo hi ho' h2 h3 h1
              · simp only [hw, Bool.false_eq_true, if_false]
                exact hgo hi ho' hs2 hk hK

theorem runDraw_ok {R : Type} {E' : Env} {fn : E'.Fn} {inl : Inl} {f : FuncId} (hT : E'.T = C.T) (hG : E'.G = C.G) (hfn : FnOk C.P E' fn) (hin : InlOk C.P E' inl) (hmx : C.P.follows .mixedOrders = true) {id : Nat} {ops : Array Oper} {σ : St} {w : World} {a : Act} {K : St → Option R} {res : R} {Q : Exit → Act → World → Prop}
    (hs : Sat C σ w a) (he : runDraw E' fn inl f ops.toList σ K = some res)
    (hQ : ∀ σ' a' w', K σ' = some res → Sat C σ' w' a' → (∀ i, i ∉ dstL ops.toList → a'.tmps.getD i undef = a.tmps.getD i undef) → Q .normal a' w') : (Code.region id ops true).wp C.P Q a w := by
  unfold runDraw at he
  cases hsel : noSel ops.toList with
  | false => simp [hsel] at he
  | true =>
    simp only [hsel] at he
    refine wp_mono (Q := fun e a' w' => e = .normal ∧ Q .normal a' w') ?_ fun e a w ⟨he, hh⟩ => by subst he; exact hh
    refine wp_region_any hmx ?_
    obtain ⟨hd, I, β, F, hi⟩ := hs
    have h1 : Inv C I β F { t := σ.t, c := [], r := σ.r, n := σ.n, b := σ.b, k := σ.k } w a.tmps := hi.reslot hi.size hi.slots (fun k e u v hm => by simp at hm) (fun k e u v hm => by simp at hm)
    exact runM_ok hT hG hfn hin ops hsel a (Q := fun a w => Q .normal a w) hQ ops.size ops.toList.length 0 (Rel.zero ops) (by unfold left; exact Nat.le_trans (List.length_filter_le _ _) (by simp)) ⟨hd, I, β, F, h1.same rfl⟩ (fun _ _ => rfl) he

end
end Go.Proofs.YtkfikongenapfaaDoor.E

namespace Go.Proofs.YtkfikongenapfaaDoor.E
open Go
set_option linter.unusedSimpArgs false
set_option linter.unusedVariables false
theorem region_ok {R : Type} {P : Program} {E' : Env} {fn : E'.Fn} {inl : Inl} {f : FuncId} (hmx : P.follows .mixedOrders = true) (hfn : FnOk P E' fn) (hin : InlOk P E' inl) {rs : List Ty} {rv : List ResultVar} {id : Nat} {ops : Array Oper} {draw : Bool} {σ : St} {K : Ex (denL rs) → St → Option R} {res : R}
    (he : (match draw with | false => runOps E' fn inl f ops.toList ops.toList σ (K .n) | true => runDraw E' fn inl f ops.toList σ (K .n)) = some res) {C : Ctx} (hP : C.P = P) (hT : C.T = E'.T) (hG : C.G = E'.G) {w : World} {a : Act} {Q : Exit → Act → World → Prop} (hs : Sat C σ w a)
    (hQ : ∀ e σ' a' w', K e σ' = some res → e = .n → SatE C rs rv e σ' w' a' → Keep (dsts (.region id ops draw)) a a' → Q (exitOf e) a' w') : (Code.region id ops draw).wp P Q a w := by
  subst hP
  have hk : ∀ a' : Act, (∀ i, i ∉ dstL ops.toList → a'.tmps.getD i undef = a.tmps.getD i undef) → Keep (dsts (.region id ops draw)) a a' := fun a' h i hi => h i (not_mem_of hi)
  cases draw with
  | false =>
    refine wp_region ?_
    have := runOps_ok (Q := Q) hT.symm hG.symm hfn hin ops a ops.toList 0 rfl hs (fun _ _ => rfl) he fun σ' a' w' h1 h2 h3 => hQ .n σ' a' w' h1 rfl h2 (hk a' h3)
    rwa [← List.range_eq_range', Array.length_toList] at this
  | true => exact runDraw_ok hT.symm hG.symm hfn hin hmx hs he fun σ' a' w' h1 h2 h3 => hQ .n σ' a' w' h1 rfl h2 (hk a' h3)

theorem block_ok {R : Type} {P : Program} {E' : Env} {fn : E'.Fn} {inl : Inl} {f : FuncId} {rv : List ResultVar} {k id : Nat} {c : Code}
    (ih : ∀ {R : Type} {σ : St} {K : Ex (denL (E'.sig f).rs) → St → Option R} {res : R}, ev E' fn inl f rv k c R σ K = some res → ∀ {C : Ctx}, C.P = P → C.T = E'.T → C.G = E'.G → ∀ {w a Q}, Sat C σ w a →
      (∀ e σ' a' w', K e σ' = some res → SatE C (E'.sig f).rs rv e σ' w' a' → Keep (dsts c) a a' → Q (exitOf e) a' w') → c.wp P Q a w)
    {σ : St} {K : Ex (denL (E'.sig f).rs) → St → Option R} {res : R}
    (he : (match E'.ann σ.b f id with
      | some cut => cutK σ (dsts c) cut (fun kv xv => loopF false id σ.n σ.b f cut kv (fun σ K => ev E' fn inl f rv k c _ σ K) 1 xv) K
      | none => ev E' fn inl f rv k c R σ fun e σ' => match e with
        | .e j => br (Nat.beq j id) (K .n σ') (K (.e j) σ')
        | e => K e σ') = some res) {C : Ctx} (hP : C.P = P) (hT : C.T = E'.T) (hG : C.G = E'.G) {w : World} {a : Act} {Q : Exit → Act → World → Prop} (hs : Sat C σ w a)
    (hQ : ∀ e σ' a' w', K e σ' = some res → SatE C (E'.sig f).rs rv e σ' w' a' → Keep (dsts c) a a' → Q (exitOf e) a' w') : (Code.block id c).wp P Q a w := by
  cases ha : E'.ann σ.b f id with
  | some cut =>
    simp only [ha] at he
    have := cutK_ok (code := .block id c) (Q := Q) hs he (fun C' σ1 kv xv r h1 h2 h2' h2'' e1 e2 h3 h4 h5 h6 Q' hQ' => by
      rw [hP]
      refine wp_block ?_
      exact once_ok (rs := (E'.sig f).rs) (rv := rv) h3 h2'' h5 (fun he hs hq => ih he (h1.trans hP) (h2.trans hT) (h2'.trans hG) hs hq) hQ' h4 h6) hQ
    rwa [hP] at this
  | none =>
    simp only [ha] at he
    refine wp_block (ih he hP hT hG hs fun e σ' a' w' h1 h2 h3 => ?_)
    cases e with
    | n => exact hQ .n σ' a' w' h1 h2 h3
    | r q => exact hQ (.r q) σ' a' w' h1 h2 h3
    | e j =>
      simp only at h1
      show Exit.inBlock id Q (.exit j) a' w'
      cases hj : Nat.beq j id with
      | true =>
        rw [hj] at h1
        obtain rfl := Nat.eq_of_beq_eq_true hj
        simp only [Exit.inBlock, if_true]
        exact hQ .n σ' a' w' h1 h2 h3
      | false =>
        rw [hj] at h1
        have hne : j ≠ id := by rintro rfl; simp at hj
        simp only [Exit.inBlock, if_neg hne]
        exact hQ (.e j) σ' a' w' h1 h2 h3

theorem guardE_some {Q R : Type} {id : Nat} {K : Ex Q → St → Option R} {e : Ex Q} {σ : St} {r : R} (h : guardE id K e σ = some r) : K e σ = some r ∧ ∀ j, e = .e j → j ≠ id := by
  cases e with
  | n => exact ⟨h, fun j e => by cases e⟩
  | r q => exact ⟨h, fun j e => by cases e⟩
  | e j =>
    simp only [guardE] at h
    rcases br_some h with ⟨_, h⟩ | ⟨hj, h⟩
    · cases h
    · refine ⟨h, fun k e => ?_⟩
      cases e
      rintro rfl; simp at hj

theorem ev_ok {P : Program} {E' : Env} {fn : E'.Fn} {inl : Inl} (hmx : P.follows .mixedOrders = true) (hfn : FnOk P E' fn) (hin : InlOk P E' inl) (f : FuncId) (rv : List ResultVar) (k : Nat) : ∀ (c : Code) {R : Type} {σ : St} {K : Ex (denL (E'.sig f).rs) → St → Option R} {res : R}, ev E' fn inl f rv k c R σ K = some res → ∀ {C : Ctx}, C.P = P → C.T = E'.T → C.G = E'.G → ∀ {w a Q}, Sat C σ w a →
      (∀ e σ' a' w', K e σ' = some res → SatE C (E'.sig f).rs rv e σ' w' a' → Keep (dsts c) a a' → Q (exitOf e) a' w') → c.wp P Q a w
  | .skip, R, σ, K, res, he, C, hP, hT, hG, w, a, Q, hs, hQ => wp_skip (hQ .n σ a w he hs Keep.rfl)
  | .region id ops draw, R, σ, K, res, he, C, hP, hT, hG, w, a, Q, hs, hQ => by
    simp only [ev] at he
    cases ha : E'.ann σ.b f (2000 + id) with
    | none =>
      simp only [ha] at he
      exact region_ok hmx hfn hin he hP hT hG hs fun e σ' a' w' h1 _ h2 h3 => hQ e σ' a' w' h1 h2 h3
    | some cut =>
      simp only [ha] at he
      have := cutK_ok (code := .region id ops draw) (Q := Q) hs he (fun C' σ1 kv xv r h1 h2 h2' h2'' e1 e2 h3 h4 h5 h6 Q' hQ' => by
        rw [hP]
        refine once2_ok (rs := (E'.sig f).rs) (rv := rv) h3 h2'' h5 (fun {σ2 K2 res2 w2 a2 Q2} he2 hs2 hq => ?_) hQ' h4 h6
        exact region_ok hmx hfn hin he2 (h1.trans hP) (h2.trans hT) (h2'.trans hG) hs2 fun e σ' a' w' g1 g0 g2 g3 => hq e σ' a' w' g1 (fun j e' => by rw [g0] at e'; cases e') g2 g3) hQ
      rwa [hP] at this
  | .seq x y, R, σ, K, res, he, C, hP, hT, hG, w, a, Q, hs, hQ => by
    refine wp_seq (ev_ok hmx hfn hin f rv k x he hP hT hG hs fun e σ' a' w' h1 h2 h3 => ?_)
    cases e with
    | n => exact ev_ok hmx hfn hin f rv k y h1 hP hT hG h2 fun e σ2 a2 w2 g1 g2 g3 => hQ e σ2 a2 w2 g1 g2 (h3.left.trans g3.right)
    | e j => exact hQ (.e j) σ' a' w' h1 h2 h3.left
    | r q => exact hQ (.r q) σ' a' w' h1 h2 h3.left
  | .cond c x y, R, σ, K, res, he, C, hP, hT, hG, w, a, Q, hs, hQ => by
    have val : ∀ {C : Ctx} {σ : St} {w : World} {a : Act} {g : Bool}, C.G = E'.G → Sat C σ w a → asB (σ.arg E'.G none c) = some g → a.eval c = .bool g := by
      rintro C σ w a g hG ⟨hd, I, β, F, hi⟩ hg
      rw [act_eval]
      rw [← hG] at hg
      exact asB_ok (arg_ok hi (fun d w h => by cases h) c) hg
    simp only [ev] at he
    cases ha : E'.ann σ.b f (1000 + ridOf x) with
    | none =>
      simp only [ha] at he
      cases hg : asB (σ.arg E'.G none c) with
      | none => simp [hg] at he
      | some g =>
        simp only [hg] at he
        refine wp_cond (val hG hs hg) ?_
        rcases br_some he with ⟨rfl, he⟩ | ⟨rfl, he⟩
        · exact ev_ok hmx hfn hin f rv k x he hP hT hG hs fun e σ' a' w' h1 h2 h3 => hQ e σ' a' w' h1 h2 h3.left
        · exact ev_ok hmx hfn hin f rv k y he hP hT hG hs fun e σ' a' w' h1 h2 h3 => hQ e σ' a' w' h1 h2 h3.right
    | some cut =>
      simp only [ha] at he
      have := cutK_ok (code := .cond c x y) (Q := Q) hs he (fun C' σ1 kv xv r h1 h2 h2' h2'' e1 e2 h3 h4 h5 h6 Q' hQ' => by
        rw [hP]
        refine once2_ok (rs := (E'.sig f).rs) (rv := rv) h3 h2'' h5 (fun {σ2 K2 res2 w2 a2 Q2} he2 hs2 hq => ?_) hQ' h4 h6
        try simp only at he2
        cases hg : asB (σ2.arg E'.G none c) with
        | none => simp [hg] at he2
        | some g =>
          simp only [hg] at he2
          refine wp_cond (val (h2'.trans hG) hs2 hg) ?_
          rcases br_some he2 with ⟨rfl, he⟩ | ⟨rfl, he⟩
          · exact ev_ok hmx hfn hin f rv k x he (h1.trans hP) (h2.trans hT) (h2'.trans hG) hs2 fun e σ' a' w' g1 g2 g3 => hq e σ' a' w' (guardE_some g1).1 (guardE_some g1).2 g2 g3.left
          · exact ev_ok hmx hfn hin f rv k y he (h1.trans hP) (h2.trans hT) (h2'.trans hG) hs2 fun e σ' a' w' g1 g2 g3 => hq e σ' a' w' (guardE_some g1).1 (guardE_some g1).2 g2 g3.right) hQ
      rwa [hP] at this
  | .block id (.loop c), R, σ, K, res, he, C, hP, hT, hG, w, a, Q, hs, hQ => by
    simp only [ev] at he
    cases ha : E'.ann σ.b f id with
    | none => simp [ha] at he
    | some cut =>
      simp only [ha] at he
      have := cutK_ok (code := .block id (.loop c)) (Q := Q) hs he (fun C' σ1 kv xv r h1 h2 h2' h2'' e1 e2 h3 h4 h5 h6 Q' hQ' => by
        rw [hP]
        refine wp_block ?_
        exact loop_ok (rs := (E'.sig f).rs) (rv := rv) h3 h2'' h5 (fun he hs hq => ev_ok hmx hfn hin f rv k c he (h1.trans hP) (h2.trans hT) (h2'.trans hG) hs hq) hQ' k xv a w h4 Keep.rfl h6) hQ
      rwa [hP] at this
  | .block id (.skip), R, σ, K, res, he, C, hP, hT, hG, w, a, Q, hs, hQ => block_ok (c := .skip) (ev_ok hmx hfn hin f rv k _) he hP hT hG hs hQ
  | .block id (.region x y z), R, σ, K, res, he, C, hP, hT, hG, w, a, Q, hs, hQ => block_ok (c := .region x y z) (ev_ok hmx hfn hin f rv k _) he hP hT hG hs hQ
  | .block id (.seq x y), R, σ, K, res, he, C, hP, hT, hG, w, a, Q, hs, hQ => block_ok (c := .seq x y) (ev_ok hmx hfn hin f rv k _) he hP hT hG hs hQ
  | .block id (.cond x y z), R, σ, K, res, he, C, hP, hT, hG, w, a, Q, hs, hQ => block_ok (c := .cond x y z) (ev_ok hmx hfn hin f rv k _) he hP hT hG hs hQ
  | .block id (.block x y), R, σ, K, res, he, C, hP, hT, hG, w, a, Q, hs, hQ => block_ok (c := .block x y) (ev_ok hmx hfn hin f rv k _) he hP hT hG hs hQ
  | .block id (.exit x), R, σ, K, res, he, C, hP, hT, hG, w, a, Q, hs, hQ => block_ok (c := .exit x) (ev_ok hmx hfn hin f rv k _) he hP hT hG hs hQ
  | .block id (.ret), R, σ, K, res, he, C, hP, hT, hG, w, a, Q, hs, hQ => block_ok (c := .ret) (ev_ok hmx hfn hin f rv k _) he hP hT hG hs hQ
  | .block id (.rangeFunc x y z u), R, σ, K, res, he, C, hP, hT, hG, w, a, Q, hs, hQ => block_ok (c := .rangeFunc x y z u) (ev_ok hmx hfn hin f rv k _) he hP hT hG hs hQ
  | .block id (.scope x), R, σ, K, res, he, C, hP, hT, hG, w, a, Q, hs, hQ => block_ok (c := .scope x) (ev_ok hmx hfn hin f rv k _) he hP hT hG hs hQ
  | .block id (.label x), R, σ, K, res, he, C, hP, hT, hG, w, a, Q, hs, hQ => block_ok (c := .label x) (ev_ok hmx hfn hin f rv k _) he hP hT hG hs hQ
  | .block id (.goto x), R, σ, K, res, he, C, hP, hT, hG, w, a, Q, hs, hQ => block_ok (c := .goto x) (ev_ok hmx hfn hin f rv k _) he hP hT hG hs hQ
  | .block id (.refuse x), R, σ, K, res, he, C, hP, hT, hG, w, a, Q, hs, hQ => block_ok (c := .refuse x) (ev_ok hmx hfn hin f rv k _) he hP hT hG hs hQ
  | .refuse _, R, σ, K, res, he, C, hP, hT, hG, w, a, Q, hs, hQ => by simp [ev] at he
  | .rangeFunc _ _ _ _, R, σ, K, res, he, C, hP, hT, hG, w, a, Q, hs, hQ => by simp [ev] at he
  | .scope _, R, σ, K, res, he, C, hP, hT, hG, w, a, Q, hs, hQ => by simp [ev] at he
  | .label _, R, σ, K, res, he, C, hP, hT, hG, w, a, Q, hs, hQ => by simp [ev] at he
  | .goto _, R, σ, K, res, he, C, hP, hT, hG, w, a, Q, hs, hQ => by simp [ev] at he
  | .exit id, R, σ, K, res, he, C, hP, hT, hG, w, a, Q, hs, hQ => wp_exit (hQ (.e id) σ a w he hs Keep.rfl)
  | .ret, R, σ, K, res, he, C, hP, hT, hG, w, a, Q, hs, hQ => by
    simp only [ev] at he
    rw [← hT] at he
    cases ht : takesV C.T (E'.sig f).rs rv σ with
    | none => simp [ht] at he
    | some p =>
      obtain ⟨q, σ'⟩ := p
      simp only [ht] at he
      exact wp_ret (hQ (.r q) σ' a w he (ret_ok hs ht) Keep.rfl)
  | .loop _, R, σ, K, res, he, C, hP, hT, hG, w, a, Q, hs, hQ => by simp [ev] at he

end Go.Proofs.YtkfikongenapfaaDoor.E

namespace Go.Proofs.YtkfikongenapfaaDoor.E
open Go
set_option linter.unusedSimpArgs false
set_option linter.unusedVariables false
section
variable {h : Hp} {L I : Set'}
theorem argsR_len : ∀ (ps : List (Bool × Ty)) {a : denL (ps.map (·.2))} {vs : List Value} {Xs : List (List Nat)}, ArgsR h L I ps a vs Xs → vs.length = ps.length ∧ Xs.length = ps.length
  | [], _, [], [], _ => ⟨rfl, rfl⟩
  | [], _, _ :: _, _, hr | [], _, [], _ :: _, hr => hr.elim
  | _ :: _, _, [], _, hr | _ :: _, _, _ :: _, [], hr => hr.elim
  | (_, _) :: ps, (_, _), v :: vs, X :: Xs, ⟨_, hr⟩ => by
    obtain ⟨h1, h2⟩ := argsR_len ps hr
    simp [h1, h2]

/-- the pointer of an argument -/
def argβ (τ : Ty) (v : Value) : Value :=
  match τ, v with
  | .pair _ _, .agg a => a.getD 0 undef
  | _, v => v

/-- the state at a function's start -/
structure Start (h : Hp) (L I : Set') (β : Nat → Value) (F : Nat → List Nat) (k : Nat) (vs : List Value) (l : List (Nat × SV)) (ρ : List (Nat × Root)) : Prop where
  slots : ∀ i sv, (i, sv) ∈ l → k ≤ i ∧ SVR h L I β ρ sv (vs.getD (i - k) undef) ∧ ∀ r, sv.uses r = true → k ≤ r
  roots : ∀ r R, look ρ r = some R → k ≤ r ∧ RootR h L I (β r) R (F r) ∧ ∀ ρ', RootH h β ρ' (β r) R
theorem Start.cons {β : Nat → Value} {F : Nat → List Nat} {k : Nat} {v : Value} {vs : List Value} {l : List (Nat × SV)} {ρ : List (Nat × Root)} {sv : SV} (hS : Start h L I β F (k + 1) vs l ρ)
    (hsv : SVR h L I β ρ sv v) (hu : ∀ r, sv.uses r = false) : Start h L I β F k (v :: vs) ((k, sv) :: l) ρ := by
  constructor
  · intro i s hm
    rcases List.mem_cons.1 hm with hm | hm
    · simp only [Prod.mk.injEq] at hm
      obtain ⟨rfl, rfl⟩ := hm
      exact ⟨Nat.le_refl _, by simpa using hsv, fun r hr => by rw [hu r] at hr; cases hr⟩
    · obtain ⟨h1, h2, h3⟩ := hS.slots i s hm
      refine ⟨by omega, ?_, fun r hr => by have := h3 r hr; omega⟩
      have e : i - k = (i - (k + 1)) + 1 := by omega
      rw [e, List.getD_cons_succ]
      exact h2
  · intro r R hl
    obtain ⟨h1, h2⟩ := hS.roots r R hl
    exact ⟨by omega, h2⟩

theorem Start.consR {β : Nat → Value} {F : Nat → List Nat} {k : Nat} {v : Value} {vs : List Value} {l : List (Nat × SV)} {ρ : List (Nat × Root)} {sv : SV} {R : Root} (hS : Start h L I β F (k + 1) vs l ρ)
    (hsv : SVR h L I β ((k, R) :: ρ) sv v) (hu : ∀ r, sv.uses r = true → k ≤ r) (hR : RootR h L I (β k) R (F k)) (hH : ∀ ρ', RootH h β ρ' (β k) R) : Start h L I β F k (v :: vs) ((k, sv) :: l) ((k, R) :: ρ) := by
  constructor
  · intro i s hm
    rcases List.mem_cons.1 hm with hm | hm
    · simp only [Prod.mk.injEq] at hm
      obtain ⟨rfl, rfl⟩ := hm
      exact ⟨Nat.le_refl _, by simpa using hsv, hu⟩
    · obtain ⟨h1, h2, h3⟩ := hS.slots i s hm
      refine ⟨by omega, ?_, fun r hr => by have := h3 r hr; omega⟩
      have e : i - k = (i - (k + 1)) + 1 := by omega
      rw [e, List.getD_cons_succ]
      refine SVR.mono (fun b hb => ⟨hb, rfl⟩) (fun _ _ => rfl) (fun r hr => ?_) h2
      have := h3 r hr
      simp only [Same, look_cons_ne (show r ≠ k by omega)]
      exact ⟨LikeO.refl _, by simp⟩
  · intro r R' hl
    by_cases e : r = k
    · subst e
      rw [look_cons_same] at hl
      obtain rfl := Option.some.inj hl
      exact ⟨Nat.le_refl _, hR, hH⟩
    · rw [look_cons_ne e] at hl
      obtain ⟨h1, h2⟩ := hS.roots r R' hl
      exact ⟨by omega, h2⟩

theorem solid_uses {l : Bool} {t : Ty} {a : den t} (hs : solid t = true) (r : Nat) : (mkv l t a).uses r = false := by
  cases hq : (mkv l t a).uses r with
  | false => rfl
  | true =>
    simp only [mkv, SV.uses, SV.uses0] at hq
    obtain ⟨p, hp, _⟩ := (holeIn_iff (o := 0)).1 hq
    rw [solid_iff hs] at hp
    exact absurd hp (by simp)

/-- an argument that is no variable -/
def initG (len : Bool) (τ : Ty) (a : den τ) (n : Nat) (l : List (Nat × SV)) (ρ : List (Nat × Root)) : List (Nat × SV) × List (Nat × Root) :=
  match len with
  | true => match τ, a with
    | .ref false t, a => ((n, .q true t a) :: l, ρ)
    | τ, a => ((n, mkv true τ a) :: l, ρ)
  | false => match τ, a with
    | .sl true t, a => ((n, .sf n) :: l, (n, .arr false false t a) :: ρ)
    | .map true k v, a => ((n, .mp n) :: l, (n, .map false k v a none) :: ρ)
    | τ, a => ((n, match τ.flat with | true => mkv false τ a | false => .x) :: l, ρ)

theorem initV_forms (len : Bool) (τ : Ty) : (∃ t, τ = .ref true t) ∨ (∃ t, τ = .pair (.ref true t) .unit) ∨ (ioTy τ = none ∧ ∀ (ps : List (Bool × Ty)) (a : den τ) (r : denL (ps.map (·.2))) (n : Nat), initV ((len, τ) :: ps) (a, r) n = initG len τ a n (initV ps r (n + 1)).1 (initV ps r (n + 1)).2) := by
  cases τ with
  | ref o u =>
    cases o with
    | true => exact .inl ⟨u, rfl⟩
    | false => exact .inr (.inr ⟨rfl, fun _ _ _ _ => by cases len <;> rfl⟩)
  | pair x y =>
    cases x with
    | ref o u =>
      cases o with
      | true => cases y <;> first | exact .inr (.inl ⟨u, rfl⟩) | exact .inr (.inr ⟨rfl, fun _ _ _ _ => by cases len <;> rfl⟩)
      | false => exact .inr (.inr ⟨rfl, fun _ _ _ _ => by cases len <;> rfl⟩)
    | _ => exact .inr (.inr ⟨rfl, fun _ _ _ _ => by cases len <;> rfl⟩)
  | _ => exact .inr (.inr ⟨rfl, fun _ _ _ _ => by cases len <;> rfl⟩)

theorem mkv_svr {len : Bool} {t : Ty} {a : den t} {v : Value} {β : Nat → Value} {ρ : List (Nat × Root)} (hs : solid t = true) (hr : ∃ cs, Rep h (Sx L I len) true t a cs [] ∧ v = wrapV t cs) : SVR h L I β ρ (mkv len t a) v := by
  obtain ⟨cs, h1, rfl⟩ := hr
  exact mkv_ok h1 (Holes.solid hs)

theorem initV_ok : ∀ (ps : List (Bool × Ty)) {a : denL (ps.map (·.2))} {vs : List Value} {Xs : List (List Nat)} {k : Nat} {β : Nat → Value} {F : Nat → List Nat}, sigSolid ps = true → ArgsR h L I ps a vs Xs → (∀ j, j < ps.length → β (k + j) = argβ (ps.getD j (false, .unit)).2 (vs.getD j undef)) → (∀ j, F (k + j) = Xs.getD j []) →
    Start h L I β F k vs (initV ps a k).1 (initV ps a k).2
  | [], _, [], [], k, β, F, _, _, _, _ => ⟨by intro i sv hm; simp [initV] at hm, by intro r R hl; simp [initV, look] at hl⟩
  | [], _, _ :: _, _, _, _, _, _, hr, _, _ | [], _, [], _ :: _, _, _, _, _, hr, _, _ => hr.elim
  | _ :: _, _, [], _, _, _, _, _, hr, _, _ | _ :: _, _, _ :: _, [], _, _, _, _, hr, _, _ => hr.elim
  | (len, τ) :: ps, (a, x), v :: vs, X :: Xs, k, β, F, hsol, ⟨⟨cs, hr, hv⟩, hrs⟩, hβ, hF => by
    subst hv
    simp only [sigSolid, Bool.and_eq_true] at hsol
    obtain ⟨⟨hs1, hs2⟩, hs3⟩ := hsol
    have ih := initV_ok ps hs3 hrs (k := k + 1) (β := β) (F := F) (fun j hj => by have := hβ (j + 1) (by simp; omega); rw [show k + 1 + j = k + (j + 1) by omega, this]; rfl) (fun j => by have := hF (j + 1); rw [show k + 1 + j = k + (j + 1) by omega, this]; rfl)
    have hβ0 : β k = argβ τ (wrapV τ cs) := by have := hβ 0 (by simp); simpa using this
    have hF0 : F k = X := by have := hF 0; simpa using this
    rcases initV_forms len τ with ⟨t, rfl⟩ | ⟨t, rfl⟩ | ⟨hio, hg⟩
    · have hr : Rep h (Sx L I len) false (.ref true t) a cs X := hr
      obtain ⟨v0, rfl, _, hH⟩ := ref_ptr hr (by simpa [ioTy] using hs2)
      have e : β k = v0 := hβ0
      have hR : RootR h L I (β k) (.box len t a) (F k) := by rw [e, hF0]; exact hr
      refine ih.consR (R := .box len t a) ⟨.box len t a, 0, t, look_cons_same, rfl, trivial, ?_⟩ (fun r hr => by simp only [SV.uses, SV.uses0] at hr; rw [Nat.eq_of_beq_eq_true hr]; exact Nat.le_refl _) hR (fun ρ' => by rw [e]; exact hH _ _ _)
      obtain ⟨b, arr, E, fr, e1, _⟩ := hH β [] len
      show v0 = _
      rw [e, e1]; simp [ptrOf]
    · have hr : Rep h (Sx L I len) false (.pair (.ref true t) .unit) a cs X := hr
      obtain ⟨c1, c2, X1, X2, rfl, rfl, h1, rfl, rfl⟩ := hr
      obtain ⟨v0, rfl, h1', hH⟩ := ref_ptr h1 (by simpa [ioTy] using hs2)
      have e : β k = v0 := by rw [hβ0]; rfl
      have hR : RootR h L I (β k) (.box len t a.1) (F k) := by rw [e, hF0, List.append_nil]; exact h1
      refine ih.consR (R := .box len t a.1) (sv := .v false (.pair (.hole k) .unit) ((), ())) ⟨[v0], ⟨[v0], [], [], [], rfl, rfl, ⟨⟨v0, rfl, h1'⟩, rfl⟩, rfl, rfl⟩, rfl, fun p hp _ => ?_⟩ (fun r hr => ?_) hR (fun ρ' => by rw [e]; exact hH _ _ _)
      · simp [holesOf] at hp
        subst hp
        simp [e]
      · simp only [SV.uses, SV.uses0, holeIn, Bool.or_false] at hr
        rw [Nat.eq_of_beq_eq_true hr]; exact Nat.le_refl _
    · have hr : Rep h (Sx L I len) len τ a cs X := by unfold ArgR at hr; rw [hio] at hr; exact hr
      rw [hg]
      unfold initG
      cases len with
      | true =>
        have hX := Rep.lentX hr
        subst hX
        have gen : Start h L I β F k (wrapV τ cs :: vs) ((k, mkv true τ a) :: (initV ps x (k + 1)).1) (initV ps x (k + 1)).2 := ih.cons (mkv_svr hs1 ⟨cs, hr, rfl⟩) (solid_uses hs1)
        cases τ with
        | ref o t =>
          cases o with
          | false =>
            obtain ⟨v0, rfl⟩ : ∃ v0, cs = [v0] := by have := hr.len; simp [Ty.size] at this; exact List.length_eq_one_iff.1 this
            exact ih.cons (sv := .q true t a) (show Rep h (Sx L I true) true (.ref false t) a [v0] [] from hr) (fun _ => rfl)
          | true => exact gen
        | _ => exact gen
      | false =>
        have flatC : Start h L I β F k (wrapV τ cs :: vs) ((k, match τ.flat with | true => mkv false τ a | false => .x) :: (initV ps x (k + 1)).1) (initV ps x (k + 1)).2 := by
          cases hf : τ.flat with
          | false => exact ih.cons trivial (fun _ => rfl)
          | true => exact ih.cons (mkv_svr hs1 ⟨cs, (Rep.flat hf hr).2, rfl⟩) (solid_uses hs1)
        cases τ with
        | sl o t =>
          cases o with
          | true =>
            obtain ⟨v0, rfl⟩ : ∃ v0, cs = [v0] := by have := hr.len; simp [Ty.size] at this; exact List.length_eq_one_iff.1 this
            have e : β k = v0 := hβ0
            have hR : RootR h L I (β k) (.arr false false t a) (F k) := by rw [e, hF0]; exact ⟨hr, fun e => by cases e⟩
            exact ih.consR (R := .arr false false t a) (sv := .sf k) ⟨false, false, t, a, look_cons_same, e.symm⟩ (fun r hr => by simp only [SV.uses, SV.uses0] at hr; rw [Nat.eq_of_beq_eq_true hr]; exact Nat.le_refl _) hR (fun _ => trivial)
          | false => exact flatC
        | map o kt vt =>
          cases o with
          | true =>
            obtain ⟨v0, rfl⟩ : ∃ v0, cs = [v0] := by have := hr.len; simp [Ty.size] at this; exact List.length_eq_one_iff.1 this
            have e : β k = v0 := hβ0
            have hR : RootR h L I (β k) (.map false kt vt a none) (F k) := by
              rw [e, hF0]
              obtain ⟨b, ents, clock, X', e1, h2, hB, h3, hx⟩ := hr
              simp only [Bool.and_true, if_true, Bool.not_false] at hx
              exact ⟨b, ents, clock, X', by simpa using e1, h2, hB, RM.toZ h3, hx⟩
            exact ih.consR (R := .map false kt vt a none) (sv := .mp k) ⟨false, kt, vt, a, none, look_cons_same, e.symm⟩ (fun r hr => by simp only [SV.uses, SV.uses0] at hr; rw [Nat.eq_of_beq_eq_true hr]; exact Nat.le_refl _) hR (fun _ => trivial)
          | false => exact flatC
        | _ => exact flatC

end
section
variable {C : Ctx} {I : Set'} {β : Nat → Value} {F : Nat → List Nat} {w : World} {tm : Array Value}
theorem joinAll_ok : ∀ {l : List Nat} {F : Nat → List Nat} {σ σ' : St}, Inv C I β F σ w tm → joinAll l σ = some σ' → ∃ F', Inv C I β F' σ' w tm ∧ Lss I σ I σ' ∧ ∀ k R, look σ'.r k = some R → ∀ b ∈ F' k, ∃ j R0, look σ.r j = some R0 ∧ b ∈ F j
  | [], F, σ, σ', hi, he => by
    simp only [joinAll, Option.some.injEq] at he
    subst he
    exact ⟨F, hi, .refl, fun k R hl b hb => ⟨k, R, hl, hb⟩⟩
  | n :: l, F, σ, σ', hi, he => by
    simp only [joinAll] at he
    cases hj : joinR σ n with
    | none => simp [hj] at he
    | some σ1 =>
      simp only [hj] at he
      obtain ⟨F1, h1, h2⟩ := joinK_ok hi hj
      obtain ⟨F2, h3, h4, h5⟩ := joinAll_ok h1 he
      refine ⟨F2, h3, (h2.less (I := I)).lss.trans h4, fun k R hl b hb => ?_⟩
      obtain ⟨j, R0, g1, g2⟩ := h5 k R hl b hb
      by_cases e : j = n
      · subst e
        obtain ⟨i, i1, i2, _⟩ := h2.from' b g2
        cases hl : look σ.r i with
        | none => exact (i1 hl).elim
        | some R => exact ⟨i, R, hl, i2⟩
      · rw [h2.same j e] at g2
        obtain ⟨R1, g3, _⟩ := (h2.less (I := I)).back g1
        exact ⟨j, R1, g3, g2⟩

theorem outSlots_ge : ∀ {ps : List (Bool × Ty)} {n k : Nat}, k ∈ outSlots ps n → n ≤ k
  | [], n, k, h => by simp [outSlots] at h
  | (len, τ) :: ps, n, k, h => by
    simp only [outSlots] at h
    split at h
    · rcases List.mem_cons.1 h with rfl | h
      · exact Nat.le_refl _
      · have := outSlots_ge h; omega
    · have := outSlots_ge h; omega

theorem outSlots_nodup : ∀ (ps : List (Bool × Ty)) (n : Nat), (outSlots ps n).Nodup
  | [], n => by simp [outSlots]
  | (len, τ) :: ps, n => by
    have ih := outSlots_nodup ps (n + 1)
    simp only [outSlots]
    split
    · exact List.nodup_cons.2 ⟨fun h => by have := outSlots_ge h; omega, ih⟩
    · exact ih

theorem someO_head {ot : Option Ty} {l : List Ty} {tv : TV} {r : denL l} {o : denL (consO ot l)} (h : someO ot l tv r = some o) : (ot = none ∧ headO ot l o = (none, r)) ∨ ∃ t y, ot = some t ∧ coe t tv.t tv.a = some y ∧ headO ot l o = (some ⟨t, y⟩, r) := by
  cases ot with
  | none =>
    obtain rfl : r = o := Option.some.inj h
    exact .inl ⟨rfl, rfl⟩
  | some t =>
    obtain ⟨u, a⟩ := tv
    simp only [someO] at h
    cases hc : coe t u a with
    | none => simp [hc] at h
    | some y =>
      rw [hc] at h
      obtain rfl : (y, r) = o := Option.some.inj h
      exact .inr ⟨t, y, rfl, hc, rfl⟩

theorem outsOf_ok {σ : St} (hi : Inv C I β F σ w tm) : ∀ (ps : List (Bool × Ty)) {n : Nat} {o : denL (outTys ps)} {vs : List Value}, outsOf ps n σ = some o → vs.length = ps.length →
    (∀ j, n + j ∈ outSlots ps n → tm.getD (n + j) undef = vs.getD j undef) → OutsR (hpOf w) C.L I ps vs o ((outSlots ps n).map F) ∧ ∀ k ∈ outSlots ps n, ∃ R, look σ.r k = some R
  | [], n, o, vs, he, hl, ht => ⟨rfl, by simp [outSlots]⟩
  | (len, τ) :: ps, n, o, [], he, hl, ht => by simp at hl
  | (len, τ) :: ps, n, o, v :: vs, he, hl, ht => by
    have hl' : vs.length = ps.length := by simpa using hl
    have step : ∀ {o' : denL (outTys ps)}, outsOf ps (n + 1) σ = some o' → (∀ k, k ∈ outSlots ps (n + 1) → k ∈ outSlots ((len, τ) :: ps) n) → OutsR (hpOf w) C.L I ps vs o' ((outSlots ps (n + 1)).map F) ∧ ∀ k ∈ outSlots ps (n + 1), ∃ R, look σ.r k = some R := by
      intro o' h1 h2
      refine outsOf_ok hi ps h1 hl' fun j hj => ?_
      have := ht (j + 1) (by rw [show n + (j + 1) = n + 1 + j by omega]; exact h2 _ hj)
      rw [show n + 1 + j = n + (j + 1) by omega, this]; rfl
    cases hio : ioTy τ with
    | none =>
      have hos : outSlots ((len, τ) :: ps) n = outSlots ps (n + 1) := by simp only [outSlots, hio]
      have he' : ∃ r, outsOf ps (n + 1) σ = some r ∧ someO (ioTy τ) (outTys ps) ⟨.unit, ()⟩ r = some o := by
        unfold outsOf at he
        split at he
        · split at he
          · rename_i r hr; exact ⟨r, hr, he⟩
          · cases he
        · rename_i h; rw [hio] at h; cases h
      obtain ⟨r, h1, h2⟩ := he'
      obtain ⟨g1, g2⟩ := step h1 (fun k hk => by rw [hos]; exact hk)
      rw [hos]
      refine ⟨?_, g2⟩
      simp only [OutsR]
      rcases someO_head h2 with ⟨_, e⟩ | ⟨t, y, e, _⟩
      · rw [e]; exact g1
      · rw [hio] at e; cases e
    | some t =>
      have hos : outSlots ((len, τ) :: ps) n = n :: outSlots ps (n + 1) := by simp only [outSlots, hio]
      have he' : ∃ l u a0 r, boxOf (find σ.t n) = some n ∧ boxFits τ (find σ.t n) = true ∧ look σ.r n = some (.box l u a0) ∧ (!l || len) = true ∧ outsOf ps (n + 1) σ = some r ∧ someO (ioTy τ) (outTys ps) ⟨u, a0⟩ r = some o := by
        unfold outsOf at he
        split at he
        · rename_i h; rw [hio] at h; cases h
        · split at he
          · rename_i k hk
            split at he
            · rename_i l u a0 hb hlk
              cases hlen : (!l || len) with
              | false => rw [hlen] at he; simp at he
              | true =>
                cases hr : outsOf ps (n + 1) σ with
                | none => rw [hlen, hr] at he; simp at he
                | some r =>
                  rw [hlen, hr] at he
                  simp only [Bool.and_eq_true] at hb
                  obtain rfl := Nat.eq_of_beq_eq_true hb.1
                  exact ⟨l, u, a0, r, hk, hb.2, hlk, hlen, rfl, he⟩
            · cases he
          · cases he
      obtain ⟨l, u, a0, r, h1, h2, h3, h4, h5, h6⟩ := he'
      obtain ⟨g1, g2⟩ := step h5 (fun k hk => by rw [hos]; simp [hk])
      rw [hos]
      refine ⟨?_, fun k hk => ?_⟩
      · simp only [OutsR]
        rcases someO_head h6 with ⟨e, _⟩ | ⟨t', y, e, hc, e'⟩
        · rw [hio] at e; cases e
        · rw [e']
          have htm := ht 0 (by rw [hos]; simp)
          simp only [Nat.add_zero, List.getD_cons_zero] at htm
          have hs := hi.slots n
          rw [htm] at hs
          refine ⟨F n, (outSlots ps (n + 1)).map F, β n, by simp, ?_, ?_, g1⟩
          · rw [hio] at e
            obtain rfl := Option.some.inj e
            unfold boxFits at h2
            split at h2
            · rename_i r0 hf
              rw [hf] at h1 hs
              simp only [boxOf, Option.some.injEq] at h1
              subst h1
              have := box_off (h := hpOf w) (L := C.L) (I := I) (β := β) hs
              rw [hi.ptr0 r0 l u a0 h3] at this
              exact this
            · rename_i l0 k0 x0 hf
              rw [hf] at h1 hs
              simp only [boxOf, Option.some.injEq] at h1
              subst h1
              obtain ⟨u0, e1, _, e2⟩ := hole_val (h := hpOf w) (L := C.L) (I := I) (β := β) hs
              rw [← e2 (by rw [h3]; simp)]
              exact e1
            · cases h2
          · have hR : Rep (hpOf w) (Sx C.L I l) false (.ref true u) a0 [β n] (F n) := hi.roots n _ h3
            have imp : l = true → len = true := by intro e; subst e; simpa using h4
            exact Rep.wide (Sx.up (fun _ h => h) (fun _ h => h) imp) (coe_rep (τ := .ref true t') (t := .ref true u) (y := (y : den t')) (by simp only [coe, boolEq]; exact hc) hR).1
      · rcases List.mem_cons.1 hk with rfl | hk
        · exact ⟨_, h3⟩
        · exact g2 k hk

end
end Go.Proofs.YtkfikongenapfaaDoor.E

namespace Go.Proofs.YtkfikongenapfaaDoor.E
open Go
set_option linter.unusedSimpArgs false
set_option linter.unusedVariables false
theorem results_run {P : Program} {fd : Func} {w : World} {tm : Array Value} {vals : List Value} (h1 : (fd.results.toList.mapM (resF tm)).run P w = .ok vals w) : (results fd tm).run P w = .ok (tupleV vals) w := by
  have hf : results fd tm = (do let vs ← fd.results.mapM (resF tm); pure (if h : vs.size = 1 then vs[0] else .tuple vs)) := rfl
  rw [hf, Array.mapM_eq_mapM_toList]
  simp only [Sem.run_bind, bind_pure_comp, Sem.run_map] at *
  refine (congrArg (fun r : Result (List Value) => (r.andThen fun a w' => Result.ok a.toArray w').andThen fun (a : Array Value) w' => Result.ok (if h : a.size = 1 then a[0] else Value.tuple a) w') h1).trans ?_
  simp only [Result.andThen_ok]
  match vals with
  | [] => rfl
  | [t] => rfl
  | t :: u :: l => rfl

theorem tm_getD (vs : List Value) (m j : Nat) : (vs.toArray ++ Array.replicate m undef).getD j undef = vs.getD j undef := by
  rw [Array.getD_eq_getD_getElem?, Array.getElem?_append]
  by_cases h : j < vs.length
  · simp [h]
  · have h' : vs.length ≤ j := by omega
    have h2 : ¬ j < vs.toArray.size := by simpa using h'
    rw [if_neg h2, Array.getElem?_replicate]
    split <;> simp [List.getD, h']

theorem flat_getD_nodup : ∀ {Xs : List (List Nat)}, Xs.flatten.Nodup → ∀ r, (Xs.getD r []).Nodup
  | [], _, r => by simp
  | X :: Xs, h, 0 => by simp only [List.flatten_cons, List.nodup_append] at h; exact h.1
  | X :: Xs, h, r + 1 => by simp only [List.flatten_cons, List.nodup_append] at h; rw [List.getD_cons_succ]; exact flat_getD_nodup h.2.1 r

theorem flat_getD_mem {b : Nat} : ∀ {Xs : List (List Nat)} {r : Nat}, b ∈ Xs.getD r [] → b ∈ Xs.flatten
  | [], r, h => by simp at h
  | X :: Xs, 0, h => by simp at h; simp [h]
  | X :: Xs, r + 1, h => by rw [List.getD_cons_succ] at h; simp only [List.flatten_cons, List.mem_append]; exact .inr (flat_getD_mem h)

theorem flat_getD_disj {b : Nat} : ∀ {Xs : List (List Nat)} {r r' : Nat}, Xs.flatten.Nodup → r ≠ r' → b ∈ Xs.getD r [] → b ∉ Xs.getD r' []
  | [], r, r', _, _, h => by simp at h
  | X :: Xs, 0, 0, _, hne, _ => absurd rfl hne
  | X :: Xs, 0, r' + 1, hn, _, h => by
    simp only [List.flatten_cons, List.nodup_append] at hn
    intro h'
    rw [List.getD_cons_succ] at h'
    exact hn.2.2 b (by simpa using h) b (flat_getD_mem h') rfl
  | X :: Xs, r + 1, 0, hn, _, h => by
    simp only [List.flatten_cons, List.nodup_append] at hn
    intro h'
    rw [List.getD_cons_succ] at h
    exact hn.2.2 b (by simpa using h') b (flat_getD_mem h) rfl
  | X :: Xs, r + 1, r' + 1, hn, hne, h => by
    simp only [List.flatten_cons, List.nodup_append] at hn
    rw [List.getD_cons_succ] at h ⊢
    exact flat_getD_disj hn.2.1 (by omega) h

/-- ready to return: the call's answer -/
theorem back_ok {C : Ctx} {ps : List (Bool × Ty)} {rs : List Ty} {rv : List ResultVar} {q : denL rs} {o : denL (outTys ps)} {σ : St} {w : World} {a a0 : Act} {c : Code} {vs : List Value} (hR : RetS C rs rv q σ w a) (ho : outsJ ps σ = some o) (hk : Keep (dsts c) a0 a)
    (hap : apart (outSlots ps 0) (dsts c) = true) (h0 : ∀ j, a0.tmps.getD j undef = vs.getD j undef) (hl : vs.length = ps.length) :
    a.defers = [] ∧ ∃ vals, (rv.mapM (resF a.tmps)).run C.P w = .ok vals w ∧ ∃ I' Ys Zs, Back C ps rs vs q o (tupleV vals) w I' vals Ys Zs := by
  obtain ⟨hd, vals, hrv, I, β, F0, Ys, hi0, hrs, hT⟩ := hR
  obtain ⟨d1, d2⟩ := apart_iff hap
  unfold outsJ at ho
  cases hj : joinAll (outSlots ps 0) σ with
  | none => simp [hj] at ho
  | some σ' =>
    simp only [hj] at ho
    obtain ⟨F, hi, _, hfrom⟩ := joinAll_ok hi0 hj
    obtain ⟨g1, g2⟩ := outsOf_ok hi ps ho hl (fun j hj => by
      rw [Nat.zero_add] at hj ⊢
      have : natMem j (dsts c) = false := by
        cases hq : natMem j (dsts c) with
        | false => rfl
        | true => exact (d2 j hj (natMem_iff.1 hq)).elim
      rw [hk j this, h0 j])
    have hZ : ∀ b, b ∈ ((outSlots ps 0).map F).flatten → ∃ k ∈ outSlots ps 0, b ∈ F k := by
      intro b hb
      obtain ⟨W, hW, hw⟩ := List.mem_flatten.1 hb
      obtain ⟨k, hk', rfl⟩ := List.mem_map.1 hW
      exact ⟨k, hk', hw⟩
    refine ⟨hd, vals, hrv, I, Ys, _, ⟨rfl, hrs, g1, ?_, ?_, hi.shared, hi.sub, hi.frame, hi.grow, hi.rest⟩⟩
    · rw [List.nodup_append]
      refine ⟨hT.nodup, hi.flat_nodup (outSlots_nodup ps 0) (fun r hr => by obtain ⟨R, hR⟩ := g2 r hr; rw [hR]; simp), ?_⟩
      rintro b hb b' hb' rfl
      obtain ⟨k, hk', hbk⟩ := hZ b hb'
      obtain ⟨R, hR⟩ := g2 k hk'
      obtain ⟨j, R0, j1, j2⟩ := hfrom k R hR b hbk
      exact hT.apart j R0 j1 b j2 hb
    · intro b hb
      rcases List.mem_append.1 hb with hb | hb
      · exact hT.own b hb
      · obtain ⟨k, hk', hbk⟩ := hZ b hb
        obtain ⟨R, hR⟩ := g2 k hk'
        exact hi.own k R hR b hbk

theorem fnB_ok {P : Program} {E' : Env} {fn : E'.Fn} {k : Nat} (hmx : P.follows .mixedOrders = true) (hfn : FnOk P E' fn) (hin : InlOk P E' (inl5 E' fn k)) {f : FuncId} {fd : Func} {c : Code} {a : denL (E'.sig f).pt} {q : denL (E'.sig f).rs} {o : denL (E'.sig f).os} (hf : P.funcs[f]? = some fd) (hb : fd.body = some c)
    (he : fnB E' fn k f c fd.ntmps fd.results.toList a = some (q, o)) : Hold P E'.T E'.G f (E'.sig f).ps (E'.sig f).rs a q o := by
  intro C hP hT hG htk w vs Xs hh hn hzr hargs hX hXn hXb
  unfold fnB at he
  cases hc : (Nat.ble (E'.sig f).ps.length fd.ntmps && apart (outSlots (E'.sig f).ps 0) (dsts c) && sigSolid (E'.sig f).ps) with
  | false => simp [hc] at he
  | true =>
    simp only [hc] at he
    simp only [Bool.and_eq_true] at hc
    obtain ⟨⟨hc1, hc2⟩, hc3⟩ := hc
    obtain ⟨hl, hlX⟩ := argsR_len _ hargs
    have hle : vs.length ≤ fd.ntmps := by rw [hl]; exact Nat.le_of_ble_eq_true hc1
    have hst := initV_ok (E'.sig f).ps (k := 0) (β := fun i => argβ ((E'.sig f).ps.getD i (false, .unit)).2 (vs.getD i undef)) (F := fun i => Xs.getD i []) hc3 hargs (fun j _ => by rw [Nat.zero_add]) (fun j => by rw [Nat.zero_add])
    have hi : Inv C C.I (fun i => argβ ((E'.sig f).ps.getD i (false, .unit)).2 (vs.getD i undef)) (fun i => Xs.getD i []) ⟨(initV (E'.sig f).ps a 0).1, [], (initV (E'.sig f).ps a 0).2, fd.ntmps, (f + 1) * 1000000, []⟩ w (vs.toArray ++ Array.replicate (fd.ntmps - vs.toArray.size) undef) := by
      have hXm : ∀ r b, b ∈ Xs.getD r [] → C.X b := fun r b hb => (hX b).2 (flat_getD_mem hb)
      constructor
      case size => simp; omega
      case slots =>
        intro i
        rw [tm_getD]
        rcases find_mem (l := (initV (E'.sig f).ps a 0).1) (i := i) with h | h
        · simp only; rw [h]; exact trivial
        · have := (hst.slots i _ h).2.1
          rw [hh]; simpa using this
      case conds => intro k e u v h; simp at h
      case undefs => intro k e u v h; simp at h
      case roots => intro r R h; rw [hh]; exact (hst.roots r R h).2.1
      case holes => intro r R h; rw [hh]; exact (hst.roots r R h).2.2 _
      case nodup => intro r R _; exact flat_getD_nodup hXn r
      case disj => intro r r' R R' hne _ _ b hb; exact flat_getD_disj hXn hne hb
      case own => intro r R _ b hb; exact ⟨fun h => (C.Iok b h).2 (hXm r b hb), fun h => (C.Lok b h).2 (hXm r b hb), by rw [hn]; exact hXb b (flat_getD_mem hb), .inl (hXm r b hb)⟩
      case shared => intro b hb; exact ⟨by rw [hn]; exact (C.Iok b hb).1, .inl hb⟩
      case sub => exact fun _ h => h
      case frame => intro b _ _; rw [hh]
      case grow => rw [hn]; exact Nat.le_refl _
      case rest => exact hzr
      case frames => rw [htk]; exact trivial
    refine calls_of_wp hf hb ?_
    refine ev_ok hmx hfn hin f fd.results.toList k c he hP hT hG (a := { tmps := vs.toArray ++ Array.replicate (fd.ntmps - vs.toArray.size) undef, defers := [] }) ⟨rfl, _, _, _, hi⟩ ?_
    have fin : ∀ {σ' : St} {a' : Act} {w' : World} {q' : denL (E'.sig f).rs} {o' : denL (E'.sig f).os}, RetS C (E'.sig f).rs fd.results.toList q' σ' w' a' → outsJ (E'.sig f).ps σ' = some o' → (q', o') = (q, o) → Keep (dsts c) { tmps := vs.toArray ++ Array.replicate (fd.ntmps - vs.toArray.size) undef, defers := [] } a' →
        a'.defers = [] ∧ ∃ v, (results fd a'.tmps).run P w' = .ok v w' ∧ ∃ v' I' vals Ys Zs, Ending.returned v = .returned v' ∧ Back C (E'.sig f).ps (E'.sig f).rs vs q o v' w' I' vals Ys Zs := by
      intro σ' a' w' q' o' h1 h2 h3 h4
      cases h3
      obtain ⟨g1, vals, g2, I', Ys, Zs, g3⟩ := back_ok h1 h2 h4 hc2 (fun j => tm_getD vs _ j) hl
      exact ⟨g1, _, results_run (hP ▸ g2), _, I', _, Ys, Zs, rfl, g3⟩
    intro e σ' a' w' h1 h2 h3
    cases e with
    | n =>
      simp only at h1
      rw [← hT] at h1
      cases ht : takesV C.T (E'.sig f).rs fd.results.toList σ' with
      | none => simp [ht] at h1
      | some p =>
        obtain ⟨q', σ2⟩ := p
        simp only [ht] at h1
        cases ho : outsJ (E'.sig f).ps σ2 with
        | none => simp [ho] at h1
        | some o' =>
          simp only [ho, Option.some.injEq] at h1
          exact fin (ret_ok h2 ht) ho h1 h3
    | e j => simp at h1
    | r q' =>
      simp only at h1
      cases ho : outsJ (E'.sig f).ps σ' with
      | none => simp [ho] at h1
      | some o' =>
        simp only [ho, Option.some.injEq] at h1
        exact fin h2 ho h1 h3

theorem slotsIn_find : ∀ {svs : List SV} {n i : Nat}, find (slotsIn svs n) i = .x ∨ ∃ j, i = n + j ∧ svs[j]? = some (find (slotsIn svs n) i)
  | [], n, i => .inl rfl
  | sv :: l, n, i => by
    simp only [slotsIn, find]
    cases hb : Nat.beq n i with
    | true =>
      obtain rfl := Nat.eq_of_beq_eq_true hb
      exact .inr ⟨0, by omega, rfl⟩
    | false =>
      rcases slotsIn_find (svs := l) (n := n + 1) (i := i) with h | ⟨j, h1, h2⟩
      · exact .inl h
      · exact .inr ⟨j + 1, by omega, by simpa using h2⟩

theorem All2.get {α β : Type} {R : α → β → Prop} {d : β} : ∀ {l : List α} {m : List β} {j : Nat} {a : α}, All2 R l m → l[j]? = some a → R a (m.getD j d)
  | _ :: _, [], _, _, h, _ => h.elim
  | a :: l, b :: m, 0, x, ⟨h, _⟩, hx => by simp at hx; subst hx; exact h
  | a :: l, b :: m, j + 1, x, ⟨_, h⟩, hx => by
    rw [List.getD_cons_succ]
    exact All2.get h (by simpa using hx)
  | [], _, _, _, _, hx => by simp at hx

theorem All2.length {α β : Type} {R : α → β → Prop} : ∀ {l : List α} {m : List β}, All2 R l m → l.length = m.length
  | [], [], _ => rfl
  | _ :: _, [], h => h.elim
  | [], _ :: _, h => h.elim
  | _ :: _, _ :: _, ⟨_, h⟩ => by simp [All2.length h]

/-- a call that is taken as it is written -/
theorem inl0_ok {P : Program} {E' : Env} {fn : E'.Fn} {k : Nat} : InlOk P E' (inl0 E' fn k) := fun f svs d R σ K res hf he => by simp [inl0] at he

theorem inlS_ok {P : Program} {E' : Env} {fn : E'.Fn} {k : Nat} {inl : Inl} (hmx : P.follows .mixedOrders = true) (hfn : FnOk P E' fn) (hF : ∀ f fd, E'.F f = some fd → P.funcs[f]? = some fd)
    (hkn : ∀ f, E'.inl f = true → ∃ F, P.funcs[f]? = some F ∧ F.body.isSome = true ∧ F.name ≠ "runtime.NumGoroutine") (ih : InlOk P E' inl) : InlOk P E' (inlS E' fn k inl) :=
  fun f svs d R σ K res hf he => by
    refine ⟨hkn f hf, ?_⟩
    intro C hP hT hG I β F w tm vs hi hvs
    simp only [inlS] at he
    cases h1 : E'.F f with
    | none => simp [h1] at he
    | some fd =>
      simp only [h1] at he
      cases h2 : fd.body with
      | none => simp [h2] at he
      | some c =>
        simp only [h2] at he
        cases hble : Nat.ble svs.length fd.ntmps with
        | false => simp [hble] at he
        | true =>
          simp only [hble] at he
          have hlen : svs.length = vs.length := hvs.length
          have hle : vs.length ≤ fd.ntmps := by rw [← hlen]; exact Nat.le_of_ble_eq_true hble
          let C' : Ctx := { P := C.P, T := C.T, h := C.h, n := C.n, L := C.L, I := C.I, X := C.X, z := C.z, G := C.G, tk := tm :: C.tk, Iok := C.Iok, Lok := C.Lok, ok := C.ok, eqs := C.eqs, gok := C.gok }
          have hi' : Inv C' I β F { t := slotsIn svs 0, c := [], r := σ.r, n := fd.ntmps, b := inBase σ.b d, k := σ.t :: σ.k } w (vs.toArray ++ Array.replicate (fd.ntmps - vs.toArray.size) undef) := by
            constructor
            case size => simp; omega
            case slots =>
              intro i
              rw [tm_getD]
              simp only
              rcases slotsIn_find (svs := svs) (n := 0) (i := i) with h | ⟨j, h3, h4⟩
              · rw [h]; exact trivial
              · rw [Nat.zero_add] at h3
                subst h3
                exact All2.get hvs h4
            case conds => intro k e u v h; simp at h
            case undefs => intro k e u v h; simp at h
            case roots => exact hi.roots
            case holes => exact hi.holes
            case nodup => exact hi.nodup
            case disj => exact hi.disj
            case own => exact hi.own
            case shared => exact hi.shared
            case sub => exact hi.sub
            case frame => exact hi.frame
            case grow => exact hi.grow
            case rest => exact hi.rest
            case frames => exact ⟨hi.slots, hi.frames⟩
          refine calls_of_wp (hF f fd h1) h2 ?_
          refine ev_ok hmx hfn ih f fd.results.toList k c he (C := C') hP hT hG (a := { tmps := vs.toArray ++ Array.replicate (fd.ntmps - vs.toArray.size) undef, defers := [] }) ⟨rfl, _, _, _, hi'⟩ ?_
          have fin : ∀ {σ' : St} {a' : Act} {w' : World} {q : denL (E'.sig f).rs}, RetS C' (E'.sig f).rs fd.results.toList q σ' w' a' → retsK (E'.sig f).rs q (σ.b + d) (leave σ σ') K = some res →
              a'.defers = [] ∧ ∃ v, (results fd a'.tmps).run P w' = .ok v w' ∧ ∃ v', Ending.returned v = .returned v' ∧ ∃ σ' svs' vals I' β' F', v' = tupleV vals ∧ K svs' σ' = some res ∧ Inv C I' β' F' σ' w' tm ∧ All2 (SVR0 (hpOf w') C.L I' β' σ'.r) svs' vals := by
            rintro σ' a' w' q ⟨hd, vals, hrv, I2, β2, F2, Ys, hi2, hrs, hT2⟩ hK
            have hfr := hi2.frames
            cases hk : σ'.k with
            | nil => rw [hk] at hfr; exact hfr.elim
            | cons t0 k0 =>
              rw [hk] at hfr
              have hlv : leave σ σ' = { t := t0, c := [], r := σ'.r, n := σ.n, b := σ.b, k := k0 } := by simp only [leave, hk]
              rw [hlv] at hK
              have hi3 : Inv C I2 β2 F2 { t := t0, c := [], r := σ'.r, n := σ.n, b := σ.b, k := k0 } w' tm := by
                constructor
                case size => exact hi.size
                case slots => exact hfr.1
                case conds => intro k e u v h; simp at h
                case undefs => intro k e u v h; simp at h
                case roots => exact hi2.roots
                case holes => exact hi2.holes
                case nodup => exact hi2.nodup
                case disj => exact hi2.disj
                case own => exact hi2.own
                case shared => exact hi2.shared
                case sub => exact hi2.sub
                case frame => exact hi2.frame
                case grow => exact hi2.grow
                case rest => exact hi2.rest
                case frames => exact hfr.2
              obtain ⟨σ'', svs', β3, F3, g1, g2, g3, _⟩ := retsK_ok (E'.sig f).rs hi3 hK hrs ⟨hT2.nodup, hT2.own, hT2.apart⟩
              exact ⟨hd, _, results_run (hP ▸ hrv), _, rfl, σ'', svs', vals, I2, β3, F3, rfl, g1, g2, g3⟩
          intro e σ' a' w' g1 g2 g3
          cases e with
          | n =>
            simp only at g1
            rw [← hT] at g1
            cases ht : takesV C.T (E'.sig f).rs fd.results.toList σ' with
            | none => simp [ht] at g1
            | some p =>
              obtain ⟨q', σ2⟩ := p
              simp only [ht] at g1
              exact fin (ret_ok (C := C') g2 ht) g1
          | e j => simp at g1
          | r q' => exact fin g2 g1

/-- what is told by hand holds -/
def HandOk (P : Program) (E' : Env) : Prop := ∀ f g, E'.hand f = some g → ∀ a q o, g a = some (q, o) → Hold P E'.T E'.G f (E'.sig f).ps (E'.sig f).rs a q o

/-- THE EVALUATOR IS SOUND -/
theorem fnE_ok {P : Program} {E' : Env} (hmx : P.follows .mixedOrders = true) (hF : ∀ f fd, E'.F f = some fd → P.funcs[f]? = some fd)
    (hkn : ∀ f, E'.known f = true → ∃ F, P.funcs[f]? = some F ∧ F.body.isSome = true ∧ F.name ≠ "runtime.NumGoroutine")
    (hin : ∀ f, E'.inl f = true → ∃ F, P.funcs[f]? = some F ∧ F.body.isSome = true ∧ F.name ≠ "runtime.NumGoroutine") (hpr : PrimOk P E') (hha : HandOk P E') : ∀ k, FnOk P E' (fnE E' k)
  | 0 => ⟨hpr, fun f hf => ⟨hkn f hf, fun a q o he => by simp [fnE] at he⟩⟩
  | k + 1 => ⟨hpr, fun f hf => ⟨hkn f hf, fun a q o he => by
      simp only [fnE] at he
      cases hh : E'.hand f with
      | some g =>
        simp only [hh] at he
        exact hha f g hh a q o he
      | none =>
        simp only [hh, fnS] at he
        have ih := fnE_ok hmx hF hkn hin hpr hha k
        cases h1 : E'.F f with
        | none => simp [h1] at he
        | some fd =>
          simp only [h1] at he
          cases h2 : fd.body with
          | none => simp [h2] at he
          | some c =>
            simp only [h2] at he
            exact fnB_ok hmx ih (inlS_ok hmx ih hF hin (inlS_ok hmx ih hF hin (inlS_ok hmx ih hF hin (inlS_ok hmx ih hF hin (inlS_ok hmx ih hF hin inl0_ok))))) (hF f fd h1) h2 he⟩⟩

end Go.Proofs.YtkfikongenapfaaDoor.E

namespace Go.Proofs.YtkfikongenapfaaDoor.E
open Go Go.ChangeShapes Go.WideShapes Go.RowKit
set_option linter.unusedSimpArgs false
set_option linter.unusedVariables false
/-! what a law is handed, read by value -/
def TabOk (P : Program) (T : Tab) : Prop :=
  (∀ t i, T t = some i → P.underlying t = some i.d ∧ ∃ j z, P.info? t = some j ∧ j.size = i.size ∧ j.bytes = i.bytes ∧ j.zero = some z ∧ z.cells.toList = i.zero) ∧
  ∀ t i, T t = some i → i.eq = true → P.stoodInHeld t = false ∧ P.eqGuardType P.depth t = false

mutual
/-- a type of the program's table, told by 'τ' -/
def fitsB (T : Tab) : Nat → TypeId → Ty → Bool
  | 0, _, _ => false
  | n + 1, t, τ => match und T t, τ with
    | some (.int k), .int j => kindEq k j
    | some .bool, .bool => true
    | some .string, .str => true
    | some (.slice e), .sl false u => szB T e u.size && !(Nat.beq u.size 0) && fitsB T n e u
    | some (.struct fs), τ => szB T t τ.size && fitsFB T n fs.toList τ 0
    | _, _ => false
def fitsFB (T : Tab) : Nat → List Field → Ty → Nat → Bool
  | 0, _, _, _ => false
  | _ + 1, [], .unit, _ => true
  | n + 1, f :: fs, .pair a b, o => Nat.beq f.offset o && szB T f.type a.size && fitsB T n f.type a && fitsFB T n fs b (o + a.size)
  | _, _, _, _ => false
end

theorem bytes_of (P : Program) (h : ((List.range P.types.size).all fun t => match P.underlying t with | some (.slice e) => decide (0 < P.bytesOf e) | _ => true) = true) : ∀ t e, t < P.types.size → P.underlying t = some (.slice e) → 0 < P.bytesOf e := by
  intro t e hl ht
  have := List.all_eq_true.1 h t (List.mem_range.2 hl)
  rw [ht] at this
  simpa using this

def inTyS : (τ : Ty) → den τ → Prop
  | .int k, (n : Int) => k.min ≤ n ∧ n ≤ k.max
  | .str, s => s.length ≤ reachBytes
  | .pair a b, x => inTyS a x.1 ∧ inTyS b x.2
  | .sl _ t, xs => xs.length ≤ reachBytes ∧ ∀ x ∈ xs, inTyS t x
  | _, _ => True

section
variable {P : Program} {T : Tab} {H : Type} {enc : TypeId × Value → H} {w : World}
theorem und_P (hT : TabOk P T) {t : TypeId} {d : TypeDesc} (h : und T t = some d) : P.underlying t = some d := by
  unfold und at h
  split at h
  · rename_i i hi
    rw [← h]; exact (hT.1 t i hi).1
  · cases h

theorem sz_P (hT : TabOk P T) {t : TypeId} {n : Nat} (h : szB T t n = true) : P.cellsOf t = n := by
  unfold szB at h
  split at h
  · rename_i i hi
    obtain ⟨_, j, z, h1, h2, _⟩ := hT.1 t i hi
    unfold Program.cellsOf
    rw [h1]
    simp only [Option.map_some, Option.getD_some]
    rw [h2]
    exact Nat.eq_of_beq_eq_true h
  · cases h

theorem mapM_getElem {α β : Type} {f : α → Option β} : ∀ {l : List α} {r : List β}, l.mapM f = some r → l.length = r.length ∧ ∀ (i : Nat) (x : α), l[i]? = some x → f x = r[i]?
  | [], r, h => by simp at h; subst h; simp
  | a :: l, r, h => by
    rw [List.mapM_cons] at h
    cases hx : f a with
    | none => simp [hx] at h
    | some y =>
      cases hl : l.mapM f with
      | none => simp [hx, hl] at h
      | some ys =>
        simp [hx, hl] at h
        subst h
        obtain ⟨h1, h2⟩ := mapM_getElem hl
        refine ⟨by simp [h1], fun i x hi => ?_⟩
        cases i with
        | zero => simp at hi; subst hi; simpa using hx
        | succ i => simp at hi; simpa using h2 i x hi

/-- cells that are read lie in a block -/
theorem cells_block {base : Nat} {a : Addr} {n : Nat} {cs : List Value} (h : w.cells? base a n = some cs) (hn : 0 < n) :
    ∃ arr E' fr, a.spot = none ∧ hpOf w a.block = some (.cells arr E' fr) ∧ a.off + n ≤ arr.size ∧ cs = (arr.toList.drop a.off).take n := by
  unfold World.cells? at h
  split at h
  · obtain ⟨h1, h2⟩ := mapM_getElem h
    simp at h1
    have key : ∀ i, i < n → w.cell? (a.add i) = cs[i]? := fun i hi => h2 i i (by simp [hi])
    obtain ⟨b, o, s⟩ := a
    have h0 := key 0 hn
    rw [List.getElem?_eq_getElem (by omega)] at h0
    have hs : s = none := by
      have := World.cell?_spot h0
      cases s with
      | none => rfl
      | some k => simp [Addr.add] at this
    subst hs
    simp only [addr_add] at key
    have hb : ∃ arr E' fr, w.heap[b]? = some (.cells arr E' fr) := by
      rw [addr_add] at h0
      unfold World.cell? at h0
      simp only at h0
      split at h0
      · rename_i c E' fr hc; exact ⟨c, E', fr, hc⟩
      · cases h0
    obtain ⟨arr, E', fr, hb⟩ := hb
    have hcell : ∀ i, w.cell? ⟨b, o + i, none⟩ = arr[o + i]? := fun i => by unfold World.cell?; simp [hb]
    have hsz : o + n ≤ arr.size := by
      have h3 := key (n - 1) (by omega)
      rw [hcell, List.getElem?_eq_getElem (by omega)] at h3
      have := (Array.getElem?_eq_some_iff.1 h3).1
      omega
    refine ⟨arr, E', fr, rfl, hb, hsz, ?_⟩
    apply List.ext_getElem?
    intro i
    rw [List.getElem?_take]
    by_cases hi : i < n
    · rw [if_pos hi, ← key i hi, hcell, List.getElem?_drop]; simp
    · rw [if_neg hi, List.getElem?_eq_none (by omega)]
  · cases h

theorem RL.cat {α : Type} {R : α → List Value → List Nat → Prop} {s : Nat} {cs : List Value} : ∀ (n k : Nat) (f : Nat → α), (∀ i, i < n → R (f i) ((cs.drop ((k + i) * s)).take s) []) → (k + n) * s ≤ cs.length →
    RL R ((List.range n).map f) ((cs.drop (k * s)).take (n * s)) []
  | 0, k, f, _, _ => by simp [RL]
  | n + 1, k, f, h, hl => by
    rw [List.range_succ_eq_map, List.map_cons, List.map_map]
    refine ⟨(cs.drop (k * s)).take s, (cs.drop ((k + 1) * s)).take (n * s), [], [], ?_, rfl, by have := h 0 (by omega); simpa using this, ?_⟩
    · have e : (n + 1) * s = s + n * s := by rw [Nat.add_mul, Nat.one_mul, Nat.add_comm]
      rw [e, List.take_add, List.drop_drop]
      congr 3
      rw [Nat.add_mul, Nat.one_mul]
    · have := RL.cat (R := R) (s := s) (cs := cs) n (k + 1) (f ∘ Nat.succ) (fun i hi => by have := h (i + 1) (by omega); simpa [Nat.add_assoc, Nat.add_comm 1 i] using this) (by simpa [Nat.add_assoc, Nat.add_comm 1 n] using hl)
      exact this

theorem weightsAll_mem {e : TypeId} {d : DataW H} : ∀ {ds : List (DataW H)} {n : Nat}, d ∈ ds → n ∈ d.weights P e → n ∈ DataW.weightsAll P e ds
  | d0 :: ds, n, h, hn => by
    simp only [DataW.weightsAll, List.mem_append]
    rcases List.mem_cons.1 h with rfl | h
    · exact .inl hn
    · exact .inr (weightsAll_mem h hn)

theorem trod_repS (hT : TabOk P T) (kids : Kids P (· < P.types.size)) (hby : ∀ t e, t < P.types.size → P.underlying t = some (.slice e) → 0 < P.bytesOf e) : ∀ (n : Nat),
    (∀ {t : TypeId} {τ : Ty}, fitsB T n t τ = true → ∀ {fuel : Nat} {cs : List Value} {x : DataW H × List MemPlace}, DataW.trod enc P w 0 (fun _ => true) true fuel t cs = some x → (∀ n ∈ x.1.weights P t, n ≤ reachBytes) → t < P.types.size →
      ∃ a : den τ, Rep (hpOf w) (fun b => b < w.heap.size) true τ a cs [] ∧ inTyS τ a) ∧
    (∀ {fs : List Field} {τ : Ty} {o : Nat}, fitsFB T n fs τ o = true → ∀ {cs : List Value}, (∀ f ∈ fs, f.type < P.types.size ∧ ∃ fuel, ∃ x : DataW H × List MemPlace, DataW.trod enc P w 0 (fun _ => true) true fuel f.type ((cs.drop f.offset).take (P.cellsOf f.type)) = some x ∧ ∀ n ∈ x.1.weights P f.type, n ≤ reachBytes) →
      o + τ.size = cs.length → ∃ a : den τ, Rep (hpOf w) (fun b => b < w.heap.size) true τ a (cs.drop o) [] ∧ inTyS τ a)
  | 0 => ⟨fun h => by simp [fitsB] at h, fun h => by simp [fitsFB] at h⟩
  | n + 1 => by
    obtain ⟨ih1, ih2⟩ := trod_repS hT kids hby n
    constructor
    · intro t τ h fuel cs x hx hwt hts
      unfold fitsB at h
      split at h
      · rename_i k j hu
        obtain rfl := kindEq_iff h
        obtain ⟨m, rfl, _, h3⟩ := DataW.trod_int (und_P hT hu) hx
        refine ⟨m, ⟨rfl, rfl⟩, ?_⟩
        simp only [Lit.wf, Bool.and_eq_true, decide_eq_true_eq] at h3
        exact h3
      · rename_i hu
        obtain ⟨b, rfl, _⟩ := DataW.trod_bool (und_P hT hu) hx
        exact ⟨b, ⟨rfl, rfl⟩, trivial⟩
      · rename_i hu
        obtain ⟨s, rfl, rfl, h3⟩ := DataW.trod_string (und_P hT hu) hx
        refine ⟨s.data.toList, ⟨rfl, rfl⟩, ?_⟩
        exact hwt _ (by simp [DataW.weights])
      · rename_i e u hu
        simp only [Bool.and_eq_true, Bool.not_eq_true'] at h
        obtain ⟨⟨h1, h2⟩, h3⟩ := h
        have hsz := sz_P hT h1
        have hpos : 0 < u.size := by
          rcases Nat.eq_zero_or_pos u.size with h0 | h0
          · rw [h0] at h2; simp at h2
          · exact h0
        rcases DataW.trod_slice (und_P hT hu) hx with ⟨rfl, _⟩ | ⟨a, len, cap, elems, rest, m, _, rfl, rfl, _, hlc, hcm, hel, hread, hspare, _⟩
        · exact ⟨[], ⟨none, 0, rfl, Nat.le_refl _, .inl ⟨rfl, rfl, rfl, rfl⟩⟩, by simp [inTyS]⟩
        · obtain ⟨hrl, hrest⟩ := hspare rfl
          have hbe : 0 < P.bytesOf e := hby t e hts (und_P hT hu)
          simp only [DataW.weights, und_P hT hu, List.mem_cons, List.mem_append, forall_eq_or_imp, List.length_map] at hwt
          have hlr : len ≤ reachBytes := by
            have h0 := hwt.1
            have := Nat.le_mul_of_pos_right (elems.length + rest.length) hbe
            omega
          by_cases hc0 : cap = 0
          · subst hc0
            obtain rfl : len = 0 := by omega
            exact ⟨[], ⟨some a, 0, rfl, Nat.le_refl _, .inl ⟨rfl, rfl, rfl, rfl⟩⟩, by simp [inTyS]⟩
          · have hall : ∀ i, i < cap → ∃ cs', w.cells? 0 (a.add (i * u.size)) u.size = some cs' ∧ ∃ y, DataW.trod enc P w 0 (fun _ => true) true m e cs' = some y ∧ ∀ n ∈ y.1.weights P e, n ≤ reachBytes := by
              intro i hi
              have hget : ∃ y, (w.cells? 0 (a.add (i * u.size)) u.size).bind (DataW.trod enc P w 0 (fun _ => true) true m e) = some y ∧ ∀ n ∈ y.1.weights P e, n ≤ reachBytes := by
                rw [← hsz]
                by_cases hl : i < len
                · rw [hread i hl]; exact ⟨elems[i], by rw [List.getElem?_eq_getElem], fun n hn => hwt.2 n (.inl (weightsAll_mem (List.mem_map.2 ⟨elems[i], List.getElem_mem _, rfl⟩) hn))⟩
                · have := hrest (i - len) (by omega)
                  rw [show len + (i - len) = i by omega] at this
                  rw [this]; exact ⟨rest[i - len], by rw [List.getElem?_eq_getElem], fun n hn => hwt.2 n (.inr (weightsAll_mem (List.mem_map.2 ⟨rest[i - len], List.getElem_mem _, rfl⟩) hn))⟩
              obtain ⟨y, hy, hyw⟩ := hget
              rw [Option.bind_eq_some_iff] at hy
              obtain ⟨cs', h5, h6⟩ := hy
              exact ⟨cs', h5, y, h6, hyw⟩
            obtain ⟨b, o, s⟩ := a
            obtain ⟨cs0, g0, _⟩ := hall 0 (by omega)
            obtain ⟨arr, E', fr, hs, hb, _, _⟩ := cells_block g0 hpos
            have hs0 : s = none := by
              cases s with
              | none => rfl
              | some k => simp [Addr.add] at hs
            subst hs0
            simp only [addr_add] at hall hb
            have hblk : ∀ i, i < cap → o + i * u.size + u.size ≤ arr.size ∧ ∃ x : den u, Rep (hpOf w) (fun b => b < w.heap.size) true u x ((arr.toList.drop (o + i * u.size)).take u.size) [] ∧ inTyS u x := by
              intro i hi
              obtain ⟨cs', h5, y, h6, hyw⟩ := hall i hi
              obtain ⟨arr', E2, fr', _, hb', hsz', rfl⟩ := cells_block h5 hpos
              simp only at hb' hsz'
              rw [hb] at hb'
              simp only [Option.some.injEq, Obj.cells.injEq] at hb'
              obtain ⟨rfl, _, _⟩ := hb'
              exact ⟨hsz', ih1 h3 h6 hyw (kids.slice hts (und_P hT hu))⟩
            have hbl : b < w.heap.size := by
              have : w.heap[b]? = some (.cells arr E' fr) := hb
              exact (Array.getElem?_eq_some_iff.1 this).1
            have hcap : o + cap * u.size ≤ arr.size := by
              have := (hblk (cap - 1) (by omega)).1
              have e : cap * u.size = (cap - 1) * u.size + u.size := by
                conv => lhs; rw [show cap = (cap - 1) + 1 by omega, Nat.add_mul, Nat.one_mul]
              omega
            have hch : ∀ i, ∃ x : den u, i < len → Rep (hpOf w) (fun b => b < w.heap.size) true u x ((arr.toList.drop (o + i * u.size)).take u.size) [] ∧ inTyS u x := by
              intro i
              by_cases hi : i < len
              · obtain ⟨x, hx⟩ := (hblk i (by omega)).2; exact ⟨x, fun _ => hx⟩
              · exact ⟨dflt u, fun h => (hi h).elim⟩
            have hch' : ∃ f : Nat → den u, ∀ i, i < len → Rep (hpOf w) (fun b => b < w.heap.size) true u (f i) ((arr.toList.drop (o + i * u.size)).take u.size) [] ∧ inTyS u (f i) :=
              ⟨fun i => Classical.choose (hch i), fun i => Classical.choose_spec (hch i)⟩
            obtain ⟨f, hf⟩ := hch'
            refine ⟨(List.range len).map f, ⟨some ⟨b, o, none⟩, cap, by simp, by simpa using hlc, .inr ⟨b, o, arr, E', fr, [], rfl, hb, hcap, ?_, ?_⟩⟩, ?_⟩
            · have hle : len * u.size ≤ cap * u.size := Nat.mul_le_mul_right _ hlc
              have := RL.cat (R := Rep (hpOf w) (fun b => b < w.heap.size) true u) (s := u.size) (cs := arr.toList.drop o) len 0 f (fun i hi => by
                rw [List.drop_drop, Nat.zero_add]; exact (hf i hi).1) (by simp; omega)
              simpa using this
            · simp [hbl]
            · refine ⟨by simp; omega, fun x hx => ?_⟩
              obtain ⟨i, hi, rfl⟩ := List.mem_map.1 hx
              exact (hf i (by simpa using hi)).2
      · rename_i τ' fs hu
        simp only [Bool.and_eq_true] at h
        obtain ⟨h1, h2⟩ := h
        obtain ⟨xs, m, _, rfl, hl, hlen, hf⟩ := DataW.trod_struct (und_P hT hu) hx
        obtain ⟨a, h3, h4⟩ := ih2 h2 (cs := cs) (fun f hfm => by
          obtain ⟨i, hi, rfl⟩ := List.getElem_of_mem hfm
          have hi' : i < fs.size := by simpa using hi
          have := hf i fs[i] (by simp [hi'])
          refine ⟨(kids.struct hts (und_P hT hu)).1 _ (List.getElem_mem _), m, xs[i], ?_⟩
          refine ⟨by rw [Array.getElem_toList, this, List.getElem?_eq_getElem], fun n hn => hwt n ?_⟩
          simp only [DataW.weights, und_P hT hu]
          exact DataW.weights_mem_each (j := i) (t := fs[i].type) (d := (xs[i]).1) (by simp [hi']) (by simp [hlen, hi']) n (by simpa using hn)) (by rw [hl, sz_P hT h1]; simp)
        exact ⟨a, by simpa using h3, h4⟩
      · cases h
    · intro fs τ o h cs hfs hlen
      unfold fitsFB at h
      split at h
      · rename_i h0; cases h0
      · refine ⟨(), ⟨?_, rfl⟩, trivial⟩
        apply List.drop_eq_nil_of_le
        simp [Ty.size] at hlen
        omega
      · rename_i o' m f fs a b hn
        obtain rfl : m = n := by omega
        simp only [Bool.and_eq_true] at h
        obtain ⟨⟨⟨h1, h2⟩, h3⟩, h4⟩ := h
        obtain rfl := Nat.eq_of_beq_eq_true h1
        simp only [Ty.size] at hlen
        obtain ⟨hfz, fuel, x, hx, hxw⟩ := hfs f (by simp)
        rw [sz_P hT h2] at hx
        obtain ⟨y, g1, g2⟩ := ih1 h3 hx hxw hfz
        obtain ⟨z, k1, k2⟩ := ih2 h4 (cs := cs) (fun f' hf' => hfs f' (by simp [hf'])) (by omega)
        refine ⟨(y, z), ⟨(cs.drop f.offset).take a.size, cs.drop (f.offset + a.size), [], [], ?_, rfl, g1, k1⟩, g2, k2⟩
        rw [← List.drop_drop, List.take_append_drop]
      · cases h

end
end Go.Proofs.YtkfikongenapfaaDoor.E

namespace Go.Proofs.YtkfikongenapfaaDoor.E
open Go Go.ChangeShapes Go.WideShapes Go.RowKit
set_option linter.unusedSimpArgs false
set_option linter.unusedVariables false
def fitsLB (T : Tab) : List TypeId → List (Bool × Ty) → Bool
  | [], [] => true
  | t :: ts, (_, τ) :: ps => fitsB T 40 t τ && τ.flat && fitsLB T ts ps
  | _, _ => false

def inTySL : (ps : List (Bool × Ty)) → denL (ps.map (·.2)) → Prop
  | [], _ => True
  | (_, τ) :: ps, (a, r) => inTyS τ a ∧ inTySL ps r

theorem ioTy_flat {τ : Ty} (h : τ.flat = true) : ioTy τ = none := by
  cases hi : ioTy τ with
  | none => rfl
  | some t =>
    rcases io_cases hi with rfl | rfl
    · simp [Ty.flat] at h
    · simp [Ty.flat] at h

section
variable {P : Program} {T : Tab} {H : Type} {enc : TypeId × Value → H} {w : World}
theorem cells_one {v : Value} (h : ∀ cs, v ≠ .agg cs) : v.cells = #[v] := by
  cases v <;> first | rfl | exact (h _ rfl).elim

theorem wrap_ok (hT : TabOk P T) {n b0 : Nat} {t : TypeId} {τ : Ty} {v : Value} (hf : fitsB T n t τ = true) (hv : Value.okWide P w .any b0 t v) : v = wrapV τ v.cells.toList := by
  cases n with
  | zero => simp [fitsB] at hf
  | succ n =>
    have one : (∀ cs, v ≠ .agg cs) → τ.isAgg = false → v = wrapV τ v.cells.toList := fun h h2 => by
      rw [cells_one h]; simp [wrapV, h2]
    unfold fitsB at hf
    split at hf
    · rename_i k j hu
      refine one (fun cs hc => ?_) rfl
      subst hc; simp [Value.okWide, und_P hT hu, Cell.okWide, Cell.ok] at hv
    · rename_i hu
      refine one (fun cs hc => ?_) rfl
      subst hc; simp [Value.okWide, und_P hT hu, Cell.okWide, Cell.ok] at hv
    · rename_i hu
      refine one (fun cs hc => ?_) rfl
      subst hc; simp [Value.okWide, und_P hT hu, Cell.okWide, Cell.ok] at hv
    · rename_i e u hu
      refine one (fun cs hc => ?_) rfl
      subst hc; simp [Value.okWide, und_P hT hu, Cell.okWide, Cell.ok] at hv
    · rename_i τ x2 τ' fs hu
      simp only [Value.okWide, und_P hT hu] at hv
      obtain ⟨cs, rfl, _⟩ := hv
      simp only [Bool.and_eq_true] at hf
      have ha : τ.isAgg = true := by
        cases n with
        | zero => simp [fitsFB] at hf
        | succ n =>
          cases fs.toList <;> cases τ <;> first | rfl | (simp [fitsFB] at hf)
      simp [wrapV, ha, Value.cells]
    · cases hf

theorem args_ofS (hT : TabOk P T) (kids : Kids P (· < P.types.size)) (hby : ∀ t e, t < P.types.size → P.underlying t = some (.slice e) → 0 < P.bytesOf e) {b0 : Nat} {L I : Set'} (hI : ∀ b, b < w.heap.size → I b) : ∀ {ts : List TypeId} {ps : List (Bool × Ty)} {vs : List Value} {ds : List (DataW H)} {q : List MemPlace}, fitsLB T ts ps = true →
    DataW.TrodAll enc P w 0 (fun _ => true) true ts vs ds q → (∀ n ∈ DataW.weightsEach P ts ds, n ≤ reachBytes) → (∀ t ∈ ts, t < P.types.size) → (∀ (j : Nat) t v, ts[j]? = some t → vs[j]? = some v → Value.okWide P w .any b0 t v) →
    ∃ a : denL (ps.map (·.2)), ArgsR (hpOf w) L I ps a vs (ps.map fun _ => []) ∧ inTySL ps a
  | [], [], vs, ds, q, _, hA, _, _, _ => by
    obtain ⟨rfl, rfl, rfl⟩ := trodAll_nil hA
    exact ⟨(), trivial, trivial⟩
  | [], _ :: _, _, _, _, h, _, _, _, _ => by simp [fitsLB] at h
  | _ :: _, [], _, _, _, h, _, _, _, _ => by simp [fitsLB] at h
  | t :: ts, (l, τ) :: ps, vs, ds, q, h, hA, hwt, hps, hv => by
    simp only [fitsLB, Bool.and_eq_true] at h
    obtain ⟨⟨h, hfl⟩, hfr⟩ := h
    obtain ⟨v, vs', d, ds', p, q', rfl, rfl, rfl, h1, h2⟩ := trodAll_cons hA
    obtain ⟨a, g1, g2⟩ := args_ofS hT kids hby (L := L) hI hfr h2 (fun n hn => hwt n (by simp only [DataW.weightsEach, List.mem_append]; exact .inr hn)) (fun t ht => hps t (by simp [ht])) (fun j t' v' e1 e2 => hv (j + 1) t' v' (by simpa using e1) (by simpa using e2))
    obtain ⟨fuel, hx⟩ := h1
    obtain ⟨x, k1, k2⟩ := (trod_repS hT kids hby 40).1 h hx (fun n hn => hwt n (by simp only [DataW.weightsEach, List.mem_append]; exact .inl hn)) (hps t (by simp))
    refine ⟨(x, a), ⟨⟨_, ?_, wrap_ok hT h (hv 0 t v (by simp) (by simp))⟩, g1⟩, k2, g2⟩
    have k3 : Rep (hpOf w) (Sx L I l) true τ x v.cells.toList [] := Rep.keep (S := fun b => b < w.heap.size) (fun b hb => ⟨.inl (hI b hb), rfl⟩) (fun _ _ => rfl) k1
    unfold ArgR
    rw [ioTy_flat hfl]
    exact rep_any hfl k3

theorem trodAll_len : ∀ {ts : List TypeId} {vs : List Value} {ds : List (DataW H)} {ps : List MemPlace}, DataW.TrodAll enc P w 0 (fun _ => true) true ts vs ds ps → ds.length = ts.length
  | [], _, _, _, h => by obtain ⟨rfl, rfl, rfl⟩ := trodAll_nil h; rfl
  | _ :: _, _, _, _, h => by
    obtain ⟨v, vs', d, ds', p, q', rfl, rfl, rfl, _, h2⟩ := trodAll_cons h
    simp [trodAll_len h2]

theorem same_of_heap {w w' : World} {p : MemPlace} (h : p.block < w.heap.size) (he : ∀ b, b < w.heap.size → hpOf w' b = hpOf w b) : w.sameAt w' p := by
  have e : w'.heap[p.block]? = w.heap[p.block]? := he _ h
  cases p with
  | cell b off =>
    show w'.cell? ⟨b, off, none⟩ = w.cell? ⟨b, off, none⟩
    unfold World.cell?
    simp only [MemPlace.block] at e
    simp only [e]
  | map b => exact e

theorem kept_of_heap {w w' : World} {may : MemPlace → Prop} (he : ∀ b, b < w.heap.size → hpOf w' b = hpOf w b) (hz : restOf w' = restOf w) : w.keptBut w' may := by
  simp only [restOf, Prod.mk.injEq] at hz
  refine ⟨hz.1, hz.2, fun i hi => ?_⟩
  have e : w'.heap[i]? = w.heap[i]? := he i hi
  rw [e]
  cases h : w.heap[i]? with
  | none => rfl
  | some o =>
    cases o with
    | cells c t fr => exact ⟨rfl, rfl, rfl, fun _ _ => rfl⟩
    | map es clock => exact .inr ⟨rfl, rfl⟩
    | _ => rfl

theorem trodAll_carry {w' : World} (he : ∀ b, b < w.heap.size → hpOf w' b = hpOf w b) : ∀ {ts : List TypeId} {vs : List Value} {ds : List (DataW H)} {ps : List MemPlace},
    DataW.TrodAll enc P w 0 (fun _ => true) true ts vs ds ps → DataW.TrodAll enc P w' 0 (fun _ => true) true ts vs ds ps
  | [], _, _, _, h => by
    obtain ⟨rfl, rfl, rfl⟩ := trodAll_nil h
    exact rfl
  | _ :: _, _, _, _, h => by
    obtain ⟨v, vs', d, ds', p, q', rfl, rfl, rfl, ⟨fuel, h1⟩, h2⟩ := trodAll_cons h
    refine ⟨p, q', ⟨fuel, DataW.trod_carry _ _ _ _ h1 fun x hx => same_of_heap (DataW.trod_lt _ _ _ _ h1 x hx) he⟩, trodAll_carry he h2, rfl⟩

/-- WHAT A LAW'S ROW ASKS OF ITS CALL, from the plain fact -/
theorem law_callsS (hT : TabOk P T) {G : Glob} (hby : ∀ t e, t < P.types.size → P.underlying t = some (.slice e) → 0 < P.bytesOf e) {f : FuncId} {fd : Func} {ps : List (Bool × Ty)} {s : ChangeSpec} {apart fresh handsOn again : Bool} {tb : TypeId}
    (kids : Kids P (· < P.types.size)) (full : ∀ t e, t < P.types.size → P.underlying t = some (.slice e) → 0 < P.cellsOf e)
    (hps : ∀ t ∈ fd.params.toList, t < P.types.size) (hfit : fitsLB T fd.params.toList ps = true) (hrt : fd.resultTypes = #[tb]) (htb : P.underlying tb = some .bool)
    (hvars : s.vars = []) (hs : ∀ ds : List (DataW H), ds.length = fd.params.size → s.fn H ds = { results := [.lit (.bool true)], args := ds })
    (hH : ∀ a : denL (ps.map (·.2)), inTySL ps a → ∃ o, Hold P T G f ps [.bool] a (true, ()) o)
    (W : World) (hG : ∀ g v, G g = some v → Rep (hpOf W) (fun b => b < W.heap.size) true (.ref false v.t) v.a [.pointer (some ⟨g, 0, none⟩)] []) (base : Nat) (args : Array Value) (ds gs : List (DataW H)) (before : List MemPlace)
    (hval : ∀ (j : Nat) t v, fd.params[j]? = some t → args[j]? = some v → Value.okWide P W .any base t v)
    (hW : DataW.Whole enc P fd.params.toList s.vars apart W args.toList ds gs before)
    (hsz : (DataW.weightsEach P (fd.params.toList ++ s.plain.varTypes P) (ds ++ gs)).all (· ≤ reachBytes) = true) :
    Calls P f args W fun e W' => ∃ v, e = .returned v ∧ s.post enc P fd apart fresh handsOn again W args v W' := by
  obtain ⟨p, q, hA, hV, hpq, hfz, hnd⟩ := id hW
  rw [hvars] at hV
  obtain ⟨rfl, rfl⟩ := trodVars_none hV
  rw [List.append_nil] at hpq
  subst hpq
  have hwt : ∀ n ∈ DataW.weightsEach P fd.params.toList ds, n ≤ reachBytes := by
    intro n hn
    have hvt : s.plain.varTypes P = [] := by
      unfold DataSpec.varTypes
      have : s.plain.vars = [] := hvars
      rw [this]; rfl
    rw [hvt, List.append_nil, List.append_nil] at hsz
    simpa using List.all_eq_true.1 hsz n hn
  let C : Ctx := { P := P, T := T, h := hpOf W, n := W.heap.size, L := fun _ => False, I := fun b => b < W.heap.size, X := fun _ => False, z := restOf W, G := G, tk := []
                   Iok := fun b h => ⟨h, fun h => h⟩
                   Lok := fun _ h => h.elim
                   ok := hT.1
                   eqs := hT.2
                   gok := fun g v hg => Rep.keep (fun b hb => ⟨.inl hb, rfl⟩) (fun _ _ => rfl) (hG g v hg) }
  obtain ⟨a, ha, hin⟩ := args_ofS (I := C.I) (L := C.L) hT kids hby (fun b h => h) hfit hA hwt hps (fun j t v e1 e2 => hval j t v (by simpa using e1) (by simpa using e2))
  obtain ⟨o, hh⟩ := hH a hin
  have hX : ∀ l : List (Bool × Ty), ((l.map fun _ => ([] : List Nat))).flatten = [] := by
    intro l
    induction l with
    | nil => rfl
    | cons _ _ ih => simp
  have := hh C rfl rfl rfl rfl W args.toList _ rfl rfl rfl ha (fun b => by rw [hX]; simp [C]) (by rw [hX]; simp) (by rw [hX]; simp)
  rw [Array.toArray_toList] at this
  refine this.mono ?_
  rintro e W' ⟨v, I', vals, Ys, Zs, rfl, hB⟩
  have hfr : ∀ b, b < W.heap.size → hpOf W' b = hpOf W b := fun b hb => hB.frame b hb (fun h => h)
  have hv : v = .bool true := by
    have hr := hB.rets
    have hval := hB.val
    match vals, Ys, hr with
    | [v1], [Y1], ⟨⟨cs, h1, h2⟩, _⟩ =>
      rw [hval, h2, h1.1]; rfl
    | [], _, h => exact h.elim
    | [_], [], h => exact h.elim
    | _ :: _ :: _, [], h => exact h.elim
    | _ :: _ :: _, _ :: _, ⟨_, h⟩ => exact h.elim
    | [_], _ :: _ :: _, ⟨_, h⟩ => exact h.elim
  subst hv
  refine ⟨_, rfl, ?_⟩
  have hlen := trodAll_len hA
  have hs' := hs ds (by simpa using hlen)
  have hold : ∀ b ∈ before, (fun b => decide (b < W.heap.size)) b.block = true := fun b hb => by simpa using hW.lt b hb
  have hargs : ∀ sp : Nat → Bool, (∀ p ∈ before, sp p.block = true) → DataW.TrodAll enc P W' 0 sp true fd.params.toList args.toList ds before := fun sp hsp =>
    DataW.TrodAll.respare kids full hps (trodAll_carry hfr hA) hsp
  have hres : ∀ (b : Nat) (sp : Nat → Bool) (hd : Bool), DataW.TrodAll enc P W' b sp hd fd.resultTypes.toList ((Value.bool true).resultList fd.resultTypes.size) [.lit (.bool true)] [] := by
    intro b sp hd
    rw [hrt]
    exact trodAll_mk1 (shut_bool htb true)
  have hz : ∀ b off, MemPlace.cell b off ∈ before → W'.frozen? ⟨b, off, none⟩ = false := by
    intro b off hp
    have hlt : b < W.heap.size := hW.lt _ hp
    rw [← hfz b off hp]
    have e : W'.heap[b]? = W.heap[b]? := hfr b hlt
    unfold World.frozen?
    simp only [e]
  refine ⟨ds, [], before, [], before, [], hW, ?_, ?_, ?_, kept_of_heap hfr hB.rest, fun _ => ⟨?_, [.lit (.bool true)] ++ ds, [], [] ++ before, ⟨[] ++ before, [], trodAll_append (hargs _ (fun _ _ => rfl)) (hres _ _ _), ?_, by simp, by simpa [World.noneFrozen] using hz, by simpa using hnd⟩, fun p hp _ => by simpa using hp⟩⟩
  · rw [List.append_nil, hs']; exact hres _ _ _
  · rw [List.append_nil, hs']; exact hargs _ hold
  · rw [List.append_nil, hs', hvars]; exact rfl
  · intro j t r h1 h2
    rw [hrt] at h1 h2
    cases j with
    | zero =>
      simp [Value.resultList] at h1 h2
      subst h1; subst h2
      simp [Value.okWide, htb, Cell.okWide, Cell.ok]
    | succ j => simp at h1
  · rw [hvars]; exact rfl

end
end Go.Proofs.YtkfikongenapfaaDoor.E

namespace Go.Proofs.YtkfikongenapfaaDoor.E
open Go Go.ChangeShapes Go.WideShapes Go.RowKit
set_option linter.unusedSimpArgs false
set_option linter.unusedVariables false
/-! the tables, off the program itself -/
def tabOf (P : Program) : Tab := fun t =>
  match P.underlying t, P.info? t with
  | some d, some j => match j.zero with
    | some z => some ⟨d, j.size, j.bytes, z.cells.toList, (match d with | .struct _ => !(P.stoodInHeld t) && !(P.eqGuardType P.depth t) | _ => false)⟩
    | none => none
  | _, _ => none

theorem tabOf_ok (P : Program) : TabOk P (tabOf P) := by
  constructor
  · intro t i h
    unfold tabOf at h
    split at h
    · rename_i d j hd hj
      split at h
      · rename_i z hz
        simp only [Option.some.injEq] at h
        subst h
        exact ⟨hd, j, z, hj, rfl, rfl, hz, rfl⟩
      · cases h
    · cases h
  · intro t i h he
    unfold tabOf at h
    split at h
    · rename_i d j hd hj
      split at h
      · rename_i z hz
        simp only [Option.some.injEq] at h
        subst h
        simp only at he
        split at he
        · simpa using he
        · cases he
      · cases h
    · cases h

def tyFs (g : TypeId → Option Ty) : List Field → Option Ty
  | [] => some .unit
  | f :: fs => match g f.type, tyFs g fs with
    | some a, some b => some (.pair a b)
    | _, _ => none

def tyOf (P : Program) (tyT : List (Nat × Ty)) : Nat → TypeId → Option Ty
  | 0, _ => none
  | n + 1, t => match tab tyT t with
    | some τ => some τ
    | none => match P.underlying t with
      | some (.int k) => some (.int k)
      | some .bool => some .bool
      | some .string => some .str
      | some (.slice e) => match tyOf P tyT n e with | some u => some (.sl false u) | none => none
      | some (.array m e) => match tyOf P tyT n e with | some u => some (.arr m u) | none => none
      | some (.struct fs) => tyFs (tyOf P tyT n) fs.toList
      | _ => none

def tab2 {α : Type} (l : List (Nat × List (Nat × α))) (a b : Nat) : Option α := match tab l a with | some l => tab l b | none => none

def annOf (l : List (Nat × List (Nat × List (Nat × Cut)))) (b f i : Nat) : Option Cut := match tab l b with | some l => tab2 l f i | none => none

def mkEnv (P : Program) (tyT : List (Nat × Ty)) (tyF : List (Nat × List (Nat × Ty))) (sigT : List (Nat × Sig)) (inlT : List (Nat × Sig)) (annT : List (Nat × List (Nat × List (Nat × Cut)))) (prim : FuncId → Option Nat → List SV → St → OpR) (G : Glob) (cutT : List (Nat × List Nat)) : Env :=
  { T := tabOf P, F := fun f => P.funcs[f]?, ty := fun f t => match tab2 tyF f t with | some τ => some τ | none => tyOf P tyT 12 t,
    sig := fun f => match tab sigT f with | some s => s | none => (tab inlT f).getD ⟨[], []⟩, known := fun f => (tab sigT f).isSome, inl := fun f => (tab inlT f).isSome,
    ann := annOf annT, prim := prim, G := G, hand := fun _ => none, cutAt := fun f i => match tab cutT f with | some l => natMem i l | none => false }

theorem tab_mem {α : Type} : ∀ {l : List (Nat × α)} {n : Nat} {x : α}, tab l n = some x → (n, x) ∈ l
  | [], n, x, h => by simp [tab] at h
  | (k, y) :: l, n, x, h => by
    unfold tab at h
    split at h
    · rename_i he
      cases h
      rw [Nat.eq_of_beq_eq_true he]; simp
    · exact List.mem_cons_of_mem _ (tab_mem h)

def bodied (P : Program) (l : List (Nat × Sig)) : Bool := l.all fun p => match P.funcs[p.1]? with | some F => F.body.isSome && !(F.name == "runtime.NumGoroutine") | none => false

theorem bodied_ok {P : Program} {l : List (Nat × Sig)} (hk : bodied P l = true) (f : FuncId) (hf : (tab l f).isSome = true) : ∃ F, P.funcs[f]? = some F ∧ F.body.isSome = true ∧ F.name ≠ "runtime.NumGoroutine" := by
  simp only [Option.isSome_iff_exists] at hf
  obtain ⟨x, hx⟩ := hf
  have := List.all_eq_true.1 hk _ (tab_mem hx)
  simp only at this
  split at this
  · rename_i F hF
    simp only [Bool.and_eq_true, Bool.not_eq_true', beq_eq_false_iff_ne] at this
    exact ⟨F, hF, this.1, this.2⟩
  · cases this

theorem mkEnv_ok {P : Program} {tyT : List (Nat × Ty)} {tyF : List (Nat × List (Nat × Ty))} {sigT inlT : List (Nat × Sig)} {annT : List (Nat × List (Nat × List (Nat × Cut)))} {prim : FuncId → Option Nat → List SV → St → OpR} {G : Glob} {cutT : List (Nat × List Nat)}
    (hmx : P.follows .mixedOrders = true) (hpr : PrimOk P (mkEnv P tyT tyF sigT inlT annT prim G cutT)) (hk : bodied P sigT = true) (hi : bodied P inlT = true) (k : Nat) :
    FnOk P (mkEnv P tyT tyF sigT inlT annT prim G cutT) (fnE (mkEnv P tyT tyF sigT inlT annT prim G cutT) k) :=
  fnE_ok hmx (fun f fd h => h) (bodied_ok hk) (bodied_ok hi) hpr (fun f g hg => by cases hg) k

/-! what a listed variable holds -/
mutual
def readD {H : Type} : Nat → (τ : Ty) → DataW H → Option (den τ)
  | 0, _, _ => none
  | _ + 1, .int k, .lit (.int j n) => match kindEq k j with | true => some n | false => none
  | _ + 1, .bool, .lit (.bool b) => some b
  | _ + 1, .str, .lit (.string s) => some s
  | n + 1, .pair a b, .agg ds => readF n (.pair a b) ds
  | _, _, _ => none
def readF {H : Type} : Nat → (τ : Ty) → List (DataW H) → Option (den τ)
  | _ + 1, .unit, [] => some ()
  | n + 1, .pair a b, d :: ds => match readD n a d, readF n b ds with | some x, some y => some (x, y) | _, _ => none
  | _, _, _ => none
end

section
variable {P : Program} {T : Tab} {H : Type} {enc : TypeId × Value → H} {w : World} {S : Set'} {base : Nat} {sp : Nat → Bool} {hd : Bool}
theorem trod_read (hT : TabOk P T) : ∀ (n : Nat),
    (∀ {t : TypeId} {τ : Ty} {a : den τ}, fitsB T n t τ = true → ∀ {fuel : Nat} {cs : List Value} {x : DataW H × List MemPlace}, DataW.trod enc P w base sp hd fuel t cs = some x → ∀ k, readD k τ x.1 = some a → Rep (hpOf w) S true τ a cs []) ∧
    (∀ {fs : List Field} {τ : Ty} {o : Nat} {a : den τ}, fitsFB T n fs τ o = true → ∀ {cs : List Value} {xs : List (DataW H × List MemPlace)}, xs.length = fs.length → (∀ (i : Nat) f x, fs[i]? = some f → xs[i]? = some x → ∃ fuel, DataW.trod enc P w base sp hd fuel f.type ((cs.drop f.offset).take (P.cellsOf f.type)) = some x) →
      o + τ.size = cs.length → ∀ k, readF k τ (xs.map (·.1)) = some a → Rep (hpOf w) S true τ a (cs.drop o) [])
  | 0 => ⟨fun h => by simp [fitsB] at h, fun h => by simp [fitsFB] at h⟩
  | n + 1 => by
    obtain ⟨ih1, ih2⟩ := trod_read hT n
    constructor
    · intro t τ a h fuel cs x hx k hk
      unfold fitsB at h
      cases k with
      | zero => simp [readD] at hk
      | succ k =>
      split at h
      · rename_i k' j hu
        obtain rfl := kindEq_iff h
        obtain ⟨m, rfl, h2, h3⟩ := DataW.trod_int (und_P hT hu) hx
        rw [h2] at hk
        simp only [readD] at hk
        split at hk
        · obtain rfl := Option.some.inj hk
          exact ⟨rfl, rfl⟩
        · cases hk
      · rename_i hu
        obtain ⟨b, rfl, h2⟩ := DataW.trod_bool (und_P hT hu) hx
        rw [h2] at hk
        simp only [readD] at hk
        obtain rfl := Option.some.inj hk
        exact ⟨rfl, rfl⟩
      · rename_i hu
        obtain ⟨s, rfl, h2, h3⟩ := DataW.trod_string (und_P hT hu) hx
        rw [h2] at hk
        simp only [readD] at hk
        obtain rfl := Option.some.inj hk
        exact ⟨rfl, rfl⟩
      · rename_i e u hu
        simp [readD] at hk
      · rename_i τ x2 τ' fs hu
        simp only [Bool.and_eq_true] at h
        obtain ⟨h1, h2⟩ := h
        obtain ⟨xs, m, _, rfl, hl, hlen, hf⟩ := DataW.trod_struct (und_P hT hu) hx
        have hp : ∃ b c, τ = .pair b c := by
          cases τ <;> first | exact ⟨_, _, rfl⟩ | (simp [readD] at hk)
        obtain ⟨b, c, rfl⟩ := hp
        simp only [readD] at hk
        have := ih2 h2 (cs := cs) (xs := xs) (by simpa using hlen) (fun i f x hfi hxi => ⟨m, by
          have hi' : i < fs.size := by
            obtain ⟨h0, _⟩ := List.getElem?_eq_some_iff.1 hfi
            simpa using h0
          have := hf i f (by simpa using hfi)
          rw [this, hxi]⟩) (by rw [hl, sz_P hT h1]; simp) k hk
        simpa using this
      · cases h
    · intro fs τ o a h cs xs hxl hfs hlen k hk
      unfold fitsFB at h
      cases k with
      | zero => simp [readF] at hk
      | succ k =>
      split at h
      · rename_i h0; cases h0
      · obtain rfl := List.length_eq_zero_iff.1 hxl
        simp only [List.map_nil, readF] at hk
        refine ⟨?_, rfl⟩
        apply List.drop_eq_nil_of_le
        simp [Ty.size] at hlen
        omega
      · rename_i o' m f fs' a' b hn
        obtain rfl : m = n := by omega
        simp only [Bool.and_eq_true] at h
        obtain ⟨⟨⟨h1, h2⟩, h3⟩, h4⟩ := h
        obtain rfl := Nat.eq_of_beq_eq_true h1
        simp only [Ty.size] at hlen
        match xs, hxl with
        | x :: xs', hxl =>
          simp only [List.map_cons, readF] at hk
          cases hd1 : readD k a' x.1 with
          | none => simp [hd1] at hk
          | some y =>
            cases hd2 : readF k b (xs'.map (·.1)) with
            | none => simp [hd1, hd2] at hk
            | some z =>
              simp only [hd1, hd2] at hk
              obtain rfl := Option.some.inj hk
              obtain ⟨fuel, hx⟩ := hfs 0 f x (by simp) (by simp)
              rw [sz_P hT h2] at hx
              have g1 := ih1 h3 hx k hd1
              have g2 := ih2 h4 (cs := cs) (xs := xs') (by simpa using hxl) (fun i f' x' e1 e2 => hfs (i + 1) f' x' (by simpa using e1) (by simpa using e2)) (by omega) k hd2
              refine ⟨(cs.drop f.offset).take a'.size, cs.drop (f.offset + a'.size), [], [], ?_, rfl, g1, g2⟩
              rw [← List.drop_drop, List.take_append_drop]
      · cases h

/-- a listed variable, where it lies -/
theorem laid_rep (hT : TabOk P T) {W : World} {laid : List (String × DataW Unit)} (hL : laidMet P laid W) {n : String} {d : DataW Unit} (hm : (n, d) ∈ laid) {g : Nat} {t : TypeId} {τ : Ty} {a : den τ}
    (hg : P.globalNamed n = some g) (ht : (P.globals[g]?).map (·.type) = some t) (hf : fitsB T 40 t τ = true) (hr : readD 40 τ d = some a) (hz : 0 < τ.size) :
    Rep (hpOf W) (fun b => b < W.heap.size) true (.ref false τ) a [.pointer (some ⟨g, 0, none⟩)] [] := by
  obtain ⟨ps, hv, _, _⟩ := hL
  have key : ∀ {l : List (String × DataW Unit)} {ps : List MemPlace}, DataW.LaidVars P W l ps → (n, d) ∈ l → ∃ g t cs fuel p, P.globalNamed n = some g ∧ (P.globals[g]?).map (·.type) = some t ∧ W.var? P n = some cs ∧ DataW.trod (fun _ => ()) P W 0 (fun _ => true) false fuel t cs.toList = some (d, p) := by
    intro l
    induction l with
    | nil => intro ps _ hm; cases hm
    | cons x r ih =>
      obtain ⟨n', d'⟩ := x
      rintro ps ⟨g, t, cs, fuel, p, q, h1, h2, h3, h4, h5, h6⟩ hm
      rcases List.mem_cons.1 hm with e | hm
      · cases e
        exact ⟨g, t, cs, fuel, p, h1, h2, h3, h4⟩
      · exact ih h5 hm
  obtain ⟨g', t', cs, fuel, p, h1, h2, h3, h4⟩ := key hv hm
  obtain rfl := Option.some.inj (hg.symm.trans h1)
  obtain rfl := Option.some.inj (ht.symm.trans h2)
  have hrep := (trod_read (S := fun b => b < W.heap.size) hT 40).1 hf h4 40 hr
  have hlen := hrep.len
  simp only [World.var?, hg, Option.bind_some] at h3
  split at h3
  · rename_i c E fr hb
    obtain rfl := Option.some.inj h3
    have hbl : g < W.heap.size := (Array.getElem?_eq_some_iff.1 hb).1
    refine ⟨g, 0, c, E, fr, [], rfl, hb, ?_, ?_, ?_⟩
    · simp at hlen; omega
    · have : ((c.toList.drop 0).take τ.size) = c.toList := by
        rw [List.drop_zero, List.take_of_length_le (by omega)]
      rw [this]; exact hrep
    · simp [hbl]
  · cases h3

end
end Go.Proofs.YtkfikongenapfaaDoor.E

namespace Go.Proofs.YtkfikongenapfaaDoor.E
open Go
set_option linter.unusedVariables false
abbrev TId := Int × (Int × Unit)

abbrev TChar := TId × (Int × Unit)

abbrev TCut := TId × (Int × (Int × Unit))

abbrev TOp := Int × (TId × (Int × (TId × (TId × (List UInt8 × (TId × (TChar × (TChar × (List UInt8 × (List TCut × (Bool × Unit)))))))))))

abbrev Cur := List Int × (Bool × Unit)

abbrev zOp : TOp := (0, ((0, (0, ())), (0, ((0, (0, ())), ((0, (0, ())), ([], ((0, (0, ())), (((0, (0, ())), (0, ())), (((0, (0, ())), (0, ())), ([], ([], (false, ())))))))))))) 

theorem both_self {R : Type} (A : Option R) : both A A = A := by unfold both; rw [if_pos rfl]

/-- the code of a loop, a block, a test or a region, by its number -/
def findX (id : Nat) : Code → Option Code
  | .seq a b => match findX id a with | some c => some c | none => findX id b
  | .cond c a b => match Nat.beq (1000 + ridOf a) id with | true => some (.cond c a b) | false => match findX id a with | some c => some c | none => findX id b
  | .block j (.loop c) => match Nat.beq j id with | true => some c | false => findX id c
  | .block j c => match Nat.beq j id with | true => some c | false => findX id c
  | .loop c => findX id c
  | .region j ops d => match Nat.beq (2000 + j) id with | true => some (.region j ops d) | false => none
  | _ => none

noncomputable def bodyAt (E : Env) (fn : E.Fn) (inl : Inl) (f : FuncId) (rv : List ResultVar) (k : Nat) (c : Code) (R : Type) (σ : St) (K : Ex (denL (E.sig f).rs) → St → Option R) : Option R :=
  match c with
  | .region id ops draw => match draw with
    | false => runOps E fn inl f ops.toList ops.toList σ (K .n)
    | true => runDraw E fn inl f ops.toList σ (K .n)
  | .cond c a b => match asB (σ.arg E.G none c) with
    | some g => br g (ev E fn inl f rv k a _ σ (guardE (1000 + ridOf a) K)) (ev E fn inl f rv k b _ σ (guardE (1000 + ridOf a) K))
    | none => none
  | c => ev E fn inl f rv k c _ σ K

end Go.Proofs.YtkfikongenapfaaDoor.E

