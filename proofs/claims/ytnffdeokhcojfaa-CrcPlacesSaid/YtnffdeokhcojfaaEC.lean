/- A plain evaluator of the program's form on data by value, and the proof that it is sound. No condition. -/
import Derived.Test.YtnffdeokhcojfaaEB
import Derived.Orders

namespace Go.Proofs.Ytnffdeokhcojfaa.E
open Go
set_option linter.unusedSimpArgs false
set_option linter.unusedVariables false

section
variable {C : Ctx} {I : Set'} {β : Nat → Value} {F : Nat → List Nat} {σ : St} {w : World} {tm : Array Value}

/-- one operation that changes nothing -/
def AfterQ (C : Ctx) (I : Set') (β : Nat → Value) (σ : St) (w : World) (sv : SV) (res : Result Next) : Prop :=
  ∃ v, res = .ok (.value v) w ∧ SVR (hpOf w) C.L I β σ.r sv v

theorem After0.q {σ' : St} {sv : SV} {s : Sem Value} (h : After0 C I β σ σ' w sv (s.run C.P w)) : AfterQ C I β σ w sv ((do pure (.value (← s)) : Sem Next).run C.P w) := by
  obtain ⟨v, h1, rfl, h3⟩ := h
  exact ⟨v, by simp only [Sem.run_bind, h1, Result.andThen_ok, Sem.run_pure], h3⟩

theorem opQ_ok (hi : Inv C I β F σ w tm) {g : Option (Nat × Bool)} (hg : Gok tm g) {E' : Env} (hT : E'.T = C.T) {o : Oper} {sv : SV} {σ' : St} (hq : quietO E'.T o = true) (he : opD E' g o σ = some (true, sv, σ')) :
    AfterQ C I β σ w sv ((execOp (evT tm) o).run C.P w) := by
  unfold opD at he
  unfold quietO at hq
  simp only [hT] at he hq
  cases ho : o.op with
  | move x =>
    simp only [ho, Option.some.injEq, Prod.mk.injEq, true_and] at he
    obtain ⟨rfl, rfl⟩ := he
    unfold execOp; simp only [ho]
    exact ⟨_, rfl, arg_ok hi hg x⟩
  | assign x =>
    simp only [ho, Option.some.injEq, Prod.mk.injEq, true_and] at he
    obtain ⟨rfl, rfl⟩ := he
    unfold execOp; simp only [ho]
    exact ⟨_, rfl, arg_ok hi hg x⟩
  | pick c a b =>
    simp only [ho] at he
    have key : ∀ {a' b' : SV}, (evT tm c = .bool true → SVR (hpOf w) C.L I β σ.r a' (evT tm a)) → (evT tm c = .bool false → SVR (hpOf w) C.L I β σ.r b' (evT tm b)) → opPick (σ.arg g c) a' b' σ = some (true, sv, σ') →
        AfterQ C I β σ w sv ((execOp (evT tm) o).run C.P w) := by
      intro a' b' ha hb hp
      obtain ⟨u, h1, rfl, h2⟩ := opPick_ok hi (arg_ok hi hg c) ha hb hp
      refine ⟨_, ?_, h2⟩
      unfold execOp
      cases u <;> simp [ho, h1, asBool]
    cases c with
    | tmp d =>
      simp only at he
      refine key (fun h => ?_) (fun h => ?_) he
      · split
        · exact arg_ok hi (fun d' u' hq => by simp only [Option.some.injEq, Prod.mk.injEq] at hq; obtain ⟨rfl, rfl⟩ := hq; exact h) a
        · exact arg_ok hi hg a
      · split
        · exact arg_ok hi (fun d' u' hq => by simp only [Option.some.injEq, Prod.mk.injEq] at hq; obtain ⟨rfl, rfl⟩ := hq; exact h) b
        · exact arg_ok hi hg b
    | _ => exact key (fun _ => arg_ok hi hg a) (fun _ => arg_ok hi hg b) he
  | load t a =>
    simp only [ho] at he
    unfold execOp; simp only [ho]
    exact (opLoad_ok hi (arg_ok hi hg a) he).q
  | nilCheck x =>
    simp only [ho] at he
    obtain ⟨v, h1, rfl, h3⟩ := opNil_ok (ρ := evT tm) hi ho (arg_ok hi hg x) he
    rw [h1]
    exact ⟨v, rfl, h3⟩
  | binOp op t x y q =>
    simp only [ho] at he
    unfold execOp; simp only [ho]
    exact (opBin_ok hi x y (arg_ok hi hg x) (arg_ok hi hg y) he).q
  | unOp op t x =>
    simp only [ho] at he
    unfold execOp; simp only [ho]
    exact (opUn_ok hi (arg_ok hi hg x) he).q
  | convert s t x =>
    simp only [ho] at he hq
    unfold execOp; simp only [ho]
    have h0 : After0 C I β σ σ' w sv ((convert s t (evT tm x)).run C.P w) := by
      split at hq
      · rename_i k hut
        unfold opConv at he
        split at he
        · rename_i ds k' hus hut'
          split at he
          · rename_i l j n hx
            simp only [Option.some.injEq, Prod.mk.injEq, true_and] at he
            obtain ⟨rfl, rfl⟩ := he
            have ha := arg_ok hi hg x
            rw [hx] at ha
            rw [of_int (k := j) (n := n) ha, conv_int (und_ok hus) (und_ok hut')]
            exact hi.after0 svr_int
          · simp at he
        · rename_i h2; rw [hut] at h2; cases h2
        · rename_i h2; rw [hut] at h2; cases h2
        · rename_i h2; rw [hut] at h2; cases h2
        · rename_i h2; rw [hut] at h2; cases h2
        · simp at he
      · cases hq
    exact h0.q
  | slice t x lo hh mx =>
    simp only [ho] at he
    unfold execOp; simp only [ho]
    split at he
    · rename_i hz
      obtain ⟨k, hz⟩ := isZero_some (tm := tm) hz
      have hm := optR_map hi hg mx
      rw [hz] at hm ⊢
      exact (opSlice0_ok hi (arg_ok hi hg x) (optR_map hi hg lo) (optR_map hi hg hh) hm he).q
    · exact (opSlice_ok hi (arg_ok hi hg x) (optR_map hi hg lo) (optR_map hi hg hh) (optR_map hi hg mx) he).q
  | fieldAddr t x f =>
    simp only [ho] at he
    unfold execOp; simp only [ho]
    exact (opFld_ok hi (arg_ok hi hg x) he).q
  | field t x f =>
    simp only [ho] at he
    unfold execOp; simp only [ho]
    exact (opField_ok hi (arg_ok hi hg x) he).q
  | indexAddr t x i =>
    simp only [ho] at he
    unfold execOp; simp only [ho]
    exact (opIdxA_ok hi (arg_ok hi hg x) (arg_ok hi hg i) he).q
  | index t x i =>
    simp only [ho] at he
    unfold execOp; simp only [ho]
    exact (opIdx_ok hi (arg_ok hi hg x) (arg_ok hi hg i) he).q
  | extract x i =>
    simp only [ho] at he
    unfold execOp; simp only [ho]
    exact (opExtract_ok hi (arg_ok hi hg x) he).q
  | call c =>
    simp only [ho] at he hq
    cases hc : c.callee with
    | builtin b =>
      simp only [hc] at he hq
      obtain ⟨k, hk⟩ := exec_builtin (C := C) (tm := tm) ho hc w
      rw [hk]
      cases b with
      | len =>
        simp only at he
        split at he
        · rename_i x t hx ht
          have h1 : c.argTypes = #[t] := Array.toList_inj.1 ht
          rw [map_toList (f := evT tm) hx, h1]
          exact (opLen_ok hi (arg_ok hi hg x) he).q
        · simp at he
      | _ => simp at hq
    | _ => simp [hc] at hq
  | _ => simp [ho] at hq

theorem total_quiet {T : Tab} {o : Oper} (h : total o = true) : quietO T o = true := by
  unfold total at h
  unfold quietO
  split at h <;> first | rfl | (simp_all; done)

/-! slots -/

def Sat (C : Ctx) (σ : St) (w : World) (a : Act) : Prop := a.defers = [] ∧ ∃ I β F, Inv C I β F σ w a.tmps

theorem act_eval (a : Act) : a.eval = evT a.tmps := by funext x; cases x <;> rfl

theorem putK_ok {R : Type} {dst : Option Nat} {sv : SV} {v : Value} {K : St → Option R} {res : R} {a : Act} (hd : a.defers = []) (hi : Inv C I β F σ w a.tmps) (hs : SVR (hpOf w) C.L I β σ.r sv v) (he : putK σ dst sv K = some res) :
    ∃ σ', K σ' = some res ∧ Sat C σ' w (a.put dst v) ∧ ∀ i, some i ≠ dst → (a.put dst v).tmps.getD i undef = a.tmps.getD i undef := by
  cases dst with
  | none => exact ⟨σ, he, ⟨hd, I, β, F, hi⟩, fun _ _ => rfl⟩
  | some d =>
    simp only [putK] at he
    cases hb : Nat.blt d σ.n with
    | false => simp [hb] at he
    | true =>
      simp only [hb, force_eq] at he
      have hlt : d < σ.n := by simpa [Nat.blt_eq] using hb
      refine ⟨_, he, ⟨hd, I, β, F, hi.put hlt hs⟩, fun i hne => ?_⟩
      show (a.tmps.setIfInBounds d v).getD i undef = _
      rw [getD_set (by rw [hi.size]; exact hlt), if_neg (by rintro rfl; exact hne rfl)]

theorem Inv.putC (hi : Inv C I β F σ w tm) {d e : Nat} {u : Bool} {sv : SV} {v : Value} (hd : d < σ.n) (hde : d ≠ e) (h1 : tm.getD e undef = .bool u → SVR (hpOf w) C.L I β σ.r sv v) (h2 : tm.getD e undef ≠ .bool u → v = undef) :
    Inv C I β F (σ.putC d e u sv) w (tm.setIfInBounds d v) := by
  have hp := hi.put (sv := .x) (v := v) hd trivial
  have hget := fun i => getD_set (tm := tm) (d := d) (v := v) (by rw [hi.size]; exact hd) i
  constructor
  case size => exact hp.size
  case slots => exact hp.slots
  case conds =>
    intro k e' u' v' hm hd'
    simp only [St.putC] at hm
    rcases List.mem_cons.1 hm with hm | hm
    · simp only [Prod.mk.injEq] at hm
      obtain ⟨rfl, rfl, rfl, rfl⟩ := hm
      rw [hget, if_neg (fun h => hde h.symm)] at hd'
      rw [hget, if_pos rfl]
      exact h1 hd'
    · exact hp.conds k e' u' v' hm hd'
  case undefs =>
    intro k e' u' v' hm hd'
    simp only [St.putC] at hm
    rcases List.mem_cons.1 hm with hm | hm
    · simp only [Prod.mk.injEq] at hm
      obtain ⟨rfl, rfl, rfl, rfl⟩ := hm
      rw [hget, if_neg (fun h => hde h.symm)] at hd'
      rw [hget, if_pos rfl]
      exact h2 hd'
    · exact hp.undefs k e' u' v' hm hd'
  case roots => exact hi.roots
  case nodup => exact hi.nodup
  case disj => exact hi.disj
  case own => exact hi.own
  case shared => exact hi.shared
  case sub => exact hi.sub
  case frame => exact hi.frame
  case grow => exact hi.grow
  case rest => exact hi.rest

theorem find_appT {i : Nat} : ∀ {a b : List (Nat × SV)}, (∃ sv, (i, sv) ∈ a ∧ find (appT a b) i = sv) ∨ find (appT a b) i = find b i
  | [], b => .inr rfl
  | (k, v) :: a, b => by
    simp only [appT, find]
    cases hb : Nat.beq k i with
    | true =>
      obtain rfl := Nat.eq_of_beq_eq_true hb
      exact .inl ⟨v, by simp, rfl⟩
    | false =>
      rcases find_appT (i := i) (a := a) (b := b) with ⟨sv, h1, h2⟩ | h
      · exact .inl ⟨sv, by simp [h1], h2⟩
      · exact .inr h

theorem knowC_mem {d : Nat} {b : Bool} {i : Nat} {sv : SV} : ∀ {l : List (Nat × Nat × Bool × SV)}, (i, sv) ∈ knowC d b l → (i, d, b, sv) ∈ l
  | [], h => by simp [knowC] at h
  | (k, e, w, v) :: l, h => by
    simp only [knowC] at h
    cases hb : (Nat.beq e d && boolEq w b) with
    | true =>
      rw [hb] at h
      simp only [Bool.and_eq_true] at hb
      obtain rfl := Nat.eq_of_beq_eq_true hb.1
      obtain rfl := boolEq_iff hb.2
      rcases List.mem_cons.1 h with h | h
      · simp only [Prod.mk.injEq] at h
        obtain ⟨rfl, rfl⟩ := h
        simp
      · have := knowC_mem (l := l) h
        simp [this]
    | false => rw [hb] at h; have := knowC_mem (l := l) h; simp [this]

theorem keepC_mem {d : Nat} {b : Bool} {x : Nat × Nat × Bool × SV} : ∀ {l : List (Nat × Nat × Bool × SV)}, x ∈ keepC d b l → x ∈ l
  | [], h => by simp [keepC] at h
  | (k, e, w, v) :: l, h => by
    simp only [keepC] at h
    cases hb : (Nat.beq e d && boolEq w b) with
    | true => rw [hb] at h; have := keepC_mem (l := l) h; simp [this]
    | false =>
      rw [hb] at h
      rcases List.mem_cons.1 h with h | h
      · simp [h]
      · have := keepC_mem (l := l) h; simp [this]

theorem Inv.know (hi : Inv C I β F σ w tm) {d : Nat} {b : Bool} (hd : tm.getD d undef = .bool b) : Inv C I β F (E.know d b σ) w tm where
  size := hi.size
  slots i := by
    simp only [E.know]
    by_cases e : i = d
    · subst e
      rw [find_cons_same, hd]; exact svr_bool
    · rw [find_cons_ne e]
      rcases find_appT (i := i) (a := knowC d b σ.c) (b := σ.t) with ⟨sv, h1, h2⟩ | h
      · rw [h2]; exact hi.conds _ _ _ _ (knowC_mem h1) hd
      · rw [h]; exact hi.slots i
  conds k e u v hm := hi.conds k e u v (keepC_mem hm)
  undefs k e u v hm := hi.undefs k e u v (keepC_mem hm)
  roots := hi.roots
  nodup := hi.nodup
  disj := hi.disj
  own := hi.own
  shared := hi.shared
  sub := hi.sub
  frame := hi.frame
  grow := hi.grow
  rest := hi.rest

theorem hangs_mem {n e : Nat} {u : Bool} {v : SV} : ∀ {l : List (Nat × Nat × Bool × SV)}, hangs l n = some (e, u, v) → (n, e, u, v) ∈ l
  | [], h => by simp [hangs] at h
  | (k, e', w, v') :: l, h => by
    simp only [hangs] at h
    cases hb : Nat.beq k n with
    | true =>
      rw [hb] at h
      obtain rfl := Nat.eq_of_beq_eq_true hb
      simp at h
      obtain ⟨rfl, rfl, rfl⟩ := h
      simp
    | false => rw [hb] at h; have := hangs_mem (l := l) h; simp [this]

theorem br_some {R : Type} {g : Bool} {x y : Option R} {r : R} (h : br g x y = some r) : (g = true ∧ x = some r) ∨ (g = false ∧ y = some r) := by
  cases g
  · exact .inr ⟨rfl, h⟩
  · exact .inl ⟨rfl, h⟩

/-- what a test came to -/
def Tested (tm : Array Value) (d : Nat) : Option Bool → Prop
  | some b => tm.getD d undef = .bool b
  | none => tm.getD d undef = undef

theorem test_ok {R : Type} : ∀ (n : Nat) {d : Nat} {σ : St} {K : Option Bool → St → Option R} {res : R}, Inv C I β F σ w tm → test n d σ K = some res → ∃ b σ', K b σ' = some res ∧ Inv C I β F σ' w tm ∧ Tested tm d b
  | 0, _, _, _, _, _, h => by simp [test] at h
  | n + 1, d, σ, K, res, hi, h => by
    simp only [test] at h
    split at h
    · rename_i l g hf
      have hg : tm.getD d undef = .bool g := by
        have := hi.slots d
        rw [hf] at this
        exact of_bool (b := g) this
      rcases br_some h with ⟨rfl, h⟩ | ⟨rfl, h⟩
      · exact ⟨_, _, h, hi.know hg, hg⟩
      · exact ⟨_, _, h, hi.know hg, hg⟩
    · split at h
      · rename_i e u l g hh
        have hm := hangs_mem hh
        obtain ⟨b, σ', h1, h2, h3⟩ := test_ok n hi h
        cases b with
        | none =>
          refine ⟨none, σ', h1, h2, hi.undefs _ _ _ _ hm ?_⟩
          simp only [Tested] at h3
          rw [h3]; simp [undef]
        | some b =>
          simp only at h1
          cases hb : boolEq b u with
          | true =>
            rw [hb] at h1
            obtain rfl := boolEq_iff hb
            have hg : tm.getD d undef = .bool g := of_bool (b := g) (hi.conds _ _ _ _ hm h3)
            rcases br_some h1 with ⟨rfl, h1⟩ | ⟨rfl, h1⟩
            · exact ⟨_, _, h1, h2.know hg, hg⟩
            · exact ⟨_, _, h1, h2.know hg, hg⟩
          | false =>
            rw [hb] at h1
            refine ⟨none, σ', h1, h2, hi.undefs _ _ _ _ hm ?_⟩
            simp only [Tested] at h3
            rw [h3]
            intro e
            simp only [Value.bool.injEq] at e
            subst e
            cases b <;> simp [boolEq] at hb
      · simp at h
    · simp at h

end
end Go.Proofs.Ytnffdeokhcojfaa.E

namespace Go.Proofs.Ytnffdeokhcojfaa.E
open Go
set_option linter.unusedSimpArgs false
set_option linter.unusedVariables false

section
variable {C : Ctx} {I : Set'} {β : Nat → Value} {F : Nat → List Nat} {σ : St} {w : World} {tm : Array Value}

theorem retV_ok (hi : Inv C I β F σ w tm) {τ : Ty} {a : den τ} {n : Nat} {v : Value} {Y : List Nat} {sv : SV} {σ' : St} (hr : ∃ cs, Rep (hpOf w) I false τ a cs Y ∧ v = wrapV τ cs) (hn : Y.Nodup)
    (hown : ∀ b ∈ Y, ¬ I b ∧ ¬ C.L b ∧ b < w.heap.size ∧ (C.X b ∨ C.n ≤ b)) (hap : ∀ r R, look σ.r r = some R → ∀ b ∈ Y, b ∉ F r) (he : retV τ a n σ = some (sv, σ')) :
    ∃ β' F', Inv C I β' F' σ' w tm ∧ SVR0 (hpOf w) C.L I β' σ'.r sv v ∧ (∀ r R, r < n → look σ.r r = some R → look σ'.r r = some R ∧ β' r = β r) ∧ σ'.n = σ.n ∧
      (∀ r R, look σ'.r r = some R → ∀ b ∈ F' r, b ∈ Y ∨ ∃ r' R', look σ.r r' = some R' ∧ b ∈ F r') := by
  obtain ⟨cs, hr, rfl⟩ := hr
  have hnew : ∀ (R : Root), RootR (hpOf w) C.L I (wrapV τ cs) R Y → (wrapV τ cs) = (wrapV τ cs) → ∃ β' F', Inv C I β' F' (σ.new n R) w tm ∧ β' n = wrapV τ cs ∧ (∀ r R', r < n → look σ.r r = some R' → look (σ.new n R).r r = some R' ∧ β' r = β r) ∧
      (∀ r R', look (σ.new n R).r r = some R' → ∀ b ∈ F' r, b ∈ Y ∨ ∃ r' R'', look σ.r r' = some R'' ∧ b ∈ F r') := by
    intro R hR _
    refine ⟨_, _, hi.new n R (wrapV τ cs) Y (Nat.le_refl _) rfl (fun _ _ _ => rfl) hR hn hown (fun k R' hk hl b hb hb' => hap k R' hl b hb' hb), updF_same _ _ _, ?_, ?_⟩
    · intro r R' hlt hl
      have hne : r ≠ n := by omega
      exact ⟨by simp only [St.new]; rw [look_cons_ne hne, look_del_ne hne]; exact hl, updF_ne _ _ hne⟩
    · intro r R' hl b hb
      simp only [St.new] at hl
      by_cases e : r = n
      · subst e; rw [updF_same] at hb; exact .inl hb
      · rw [updF_ne _ _ e] at hb
        rw [look_cons_ne e, look_del_ne e] at hl
        exact .inr ⟨r, R', hl, hb⟩
  have hflat : τ.flat = true → (sv, σ') = (.v false τ a, σ) → ∃ β' F', Inv C I β' F' σ' w tm ∧ SVR0 (hpOf w) C.L I β' σ'.r sv (wrapV τ cs) ∧ (∀ r R, r < n → look σ.r r = some R → look σ'.r r = some R ∧ β' r = β r) ∧ σ'.n = σ.n ∧
      (∀ r R, look σ'.r r = some R → ∀ b ∈ F' r, b ∈ Y ∨ ∃ r' R', look σ.r r' = some R' ∧ b ∈ F r') := by
    intro hf h
    simp only [Prod.mk.injEq] at h
    obtain ⟨rfl, rfl⟩ := h
    obtain ⟨_, h2⟩ := Rep.flat hf hr
    exact ⟨β, F, hi, ⟨cs, h2.wide (fun b hb => .inl hb), rfl⟩, fun r R _ h => ⟨h, rfl⟩, rfl, fun r R h b hb => .inr ⟨r, R, h, hb⟩⟩
  cases τ with
  | sl o t =>
    cases o with
    | true =>
      simp only [retV] at he
      split at he
      · simp only [Option.some.injEq, Prod.mk.injEq] at he
        obtain ⟨rfl, rfl⟩ := he
        obtain ⟨v0, rfl⟩ : ∃ v0, cs = [v0] := by have := hr.len; simp [Ty.size] at this; exact List.length_eq_one_iff.1 this
        obtain ⟨β', F', h1, h2, h3, h4⟩ := hnew (.arr false t a) (Rep.wide (fun b hb => .inl hb) hr) rfl
        exact ⟨β', F', h1, ⟨false, t, a, look_cons_same, h2.symm⟩, h3, rfl, h4⟩
      · simp at he
    | false => simp only [retV] at he; split at he <;> first | (rename_i hf; exact hflat hf (Option.some.inj he).symm) | (simp at he)
  | ref o t =>
    cases o with
    | true =>
      simp only [retV, Option.some.injEq, Prod.mk.injEq] at he
      obtain ⟨rfl, rfl⟩ := he
      obtain ⟨v0, rfl⟩ : ∃ v0, cs = [v0] := by have := hr.len; simp [Ty.size] at this; exact List.length_eq_one_iff.1 this
      obtain ⟨β', F', h1, h2, h3, h4⟩ := hnew (.box false t a) (Rep.wide (fun b hb => .inl hb) hr) rfl
      refine ⟨β', F', h1, ⟨.box false t a, 0, t, look_cons_same, rfl, trivial, ?_⟩, h3, rfl, h4⟩
      rw [h2]
      obtain ⟨b, of, arr, E', fr, X', e1, _⟩ := hr
      simp only [List.cons.injEq, and_true] at e1
      rw [e1]; simp [wrapV, Ty.isAgg, ptrOf]
    | false => simp only [retV] at he; split at he <;> first | (rename_i hf; exact hflat hf (Option.some.inj he).symm) | (simp at he)
  | _ => simp only [retV] at he; split at he <;> first | (rename_i hf; exact hflat hf (Option.some.inj he).symm) | (simp at he)

theorem retsV_ok : ∀ (rs : List Ty) {β : Nat → Value} {F : Nat → List Nat} {σ σ' : St} {q : denL rs} {n : Nat} {vals : List Value} {Ys : List (List Nat)} {l : List SV}, Inv C I β F σ w tm → RetsR (hpOf w) I rs q vals Ys → Ys.flatten.Nodup →
    (∀ b ∈ Ys.flatten, ¬ I b ∧ ¬ C.L b ∧ b < w.heap.size ∧ (C.X b ∨ C.n ≤ b)) → (∀ r R, look σ.r r = some R → ∀ b ∈ Ys.flatten, b ∉ F r) → retsV rs q n σ = some (l, σ') →
    ∃ β' F', Inv C I β' F' σ' w tm ∧ All2 (SVR0 (hpOf w) C.L I β' σ'.r) l vals ∧ (∀ r R, r < n → look σ.r r = some R → look σ'.r r = some R ∧ β' r = β r) ∧ σ'.n = σ.n
  | [], β, F, σ, σ', q, n, [], [], l, hi, _, _, _, _, he => by
    simp [retsV] at he
    obtain ⟨rfl, rfl⟩ := he
    exact ⟨β, F, hi, trivial, fun r R _ h => ⟨h, rfl⟩, rfl⟩
  | [], _, _, _, _, _, _, [], _ :: _, _, _, h, _, _, _, _ | [], _, _, _, _, _, _, _ :: _, _, _, _, h, _, _, _, _ => h.elim
  | _ :: _, _, _, _, _, _, _, [], _, _, _, h, _, _, _, _ | _ :: _, _, _, _, _, _, _, _ :: _, [], _, _, h, _, _, _, _ => h.elim
  | τ :: rs, β, F, σ, σ', (a, q), n, v :: vals, Y :: Ys, l, hi, ⟨h1, h2⟩, hn, hown, hap, he => by
    simp only [List.flatten_cons, List.nodup_append] at hn
    simp only [retsV] at he
    cases hv : retV τ a n σ with
    | none => simp [hv] at he
    | some p =>
      obtain ⟨sv, σ1⟩ := p
      simp only [hv] at he
      cases hr : retsV rs q (n + 10000) σ1 with
      | none => simp [hr] at he
      | some p2 =>
        obtain ⟨l2, σ2⟩ := p2
        simp only [hr, Option.some.injEq, Prod.mk.injEq] at he
        obtain ⟨rfl, rfl⟩ := he
        obtain ⟨β1, F1, a1, a2, a3, a4, a5⟩ := retV_ok hi h1 hn.1 (fun b hb => hown b (by simp [hb])) (fun r R hl b hb => hap r R hl b (by simp [hb])) hv
        obtain ⟨β2, F2, b1, b2, b3, b4⟩ := retsV_ok rs a1 h2 hn.2.1 (fun b hb => hown b (by simp only [List.flatten_cons, List.mem_append]; exact .inr hb)) (fun r R hl b hb hb' => by
          rcases a5 r R hl b hb' with h | ⟨r', R', h, h'⟩
          · exact hn.2.2 b h b hb rfl
          · exact hap r' R' h b (by simp only [List.flatten_cons, List.mem_append]; exact .inr hb) h') hr
        refine ⟨β2, F2, b1, ⟨?_, b2⟩, fun r R hlt hl => ?_, by rw [b4, a4]⟩
        · refine SVR0.mono (fun b hb => ⟨hb, rfl⟩) (fun b _ => rfl) ?_ a2
          intro r R hu hl
          have hrn : r < n + 10000 := by
            cases hτ : sv with
            | sf k =>
              rw [hτ] at hu
              simp [SV.uses0] at hu
              subst hu
              have : k = n := by
                subst hτ
                cases τ with
                | sl o t =>
                  cases o with
                  | true => simp only [retV] at hv; split at hv <;> simp at hv; exact hv.1.symm
                  | false => simp only [retV] at hv; split at hv <;> simp at hv
                | ref o t =>
                  cases o with
                  | true => simp [retV] at hv
                  | false => simp only [retV] at hv; split at hv <;> simp at hv
                | _ => simp only [retV] at hv; split at hv <;> simp at hv
              omega
            | p k z =>
              rw [hτ] at hu
              simp [SV.uses0] at hu
              subst hu
              have : k = n := by
                subst hτ
                cases τ with
                | sl o t =>
                  cases o with
                  | true => simp only [retV] at hv; split at hv <;> simp at hv
                  | false => simp only [retV] at hv; split at hv <;> simp at hv
                | ref o t =>
                  cases o with
                  | true => simp [retV] at hv; exact hv.1.1.symm
                  | false => simp only [retV] at hv; split at hv <;> simp at hv
                | _ => simp only [retV] at hv; split at hv <;> simp at hv
              omega
            | s k _ _ => rw [hτ] at a2 hv; cases τ with
                | sl o t =>
                  cases o with
                  | true => simp only [retV] at hv; split at hv <;> simp at hv
                  | false => simp only [retV] at hv; split at hv <;> simp at hv
                | ref o t =>
                  cases o with
                  | true => simp [retV] at hv
                  | false => simp only [retV] at hv; split at hv <;> simp at hv
                | _ => simp only [retV] at hv; split at hv <;> simp at hv
            | tup _ => rw [hτ] at a2; exact a2.elim
            | _ => rw [hτ] at hu; simp [SV.uses0] at hu
          obtain ⟨g1, g2⟩ := b3 r R hrn hl
          exact ⟨R, g1, Root.like.refl R, g2⟩
        · obtain ⟨g1, g2⟩ := a3 r R hlt hl
          obtain ⟨g3, g4⟩ := b3 r R (by omega) g1
          exact ⟨g3, g4.trans g2⟩

theorem tupV_ok {h : Hp} {L I : Set'} {β : Nat → Value} {ρ : List (Nat × Root)} : ∀ {l : List SV} {vals : List Value}, All2 (SVR0 h L I β ρ) l vals → SVR h L I β ρ (tupV l) (tupleV vals)
  | [], [], _ => ⟨[], rfl, trivial⟩
  | [sv], [v], ⟨h, _⟩ => SVR_of0 h
  | a :: b :: l, v :: u :: vs, h => ⟨v :: u :: vs, rfl, h⟩
  | [], _ :: _, h | _ :: _, [], h => h.elim
  | [_], _ :: _ :: _, ⟨_, h⟩ => h.elim
  | _ :: _ :: _, [_], ⟨_, h⟩ => h.elim

/-- a call of a function of the program -/
theorem exec_call {o : Oper} {f : FuncId} {xs : List Operand} (hc : calleeOf o = some (f, xs)) {fd : Func} (hf : C.P.funcs[f]? = some fd) (hb : fd.body.isSome = true) (hn : fd.name ≠ "runtime.NumGoroutine") (w : World) :
    (execOp (evT tm) o).run C.P w = .ok (.enter f (xs.map (evT tm)).toArray) w := by
  unfold calleeOf at hc
  split at hc
  · rename_i c ho
    split at hc
    · rename_i g hg
      simp only [Option.some.injEq, Prod.mk.injEq] at hc
      obtain ⟨rfl, rfl⟩ := hc
      have hbn : fd.body.isNone = false := by cases h : fd.body <;> simp_all
      have hargs : c.args.map (evT tm) = (c.args.toList.map (evT tm)).toArray := map_toList rfl
      unfold execOp
      simp [ho, resolve, hg, evT, Act.eval, Deferred.ofValue, invoke, callFunc, hf, hn, hbn, ← hargs]
      intro h
      rw [h] at hb
      cases hb
    · cases hc
  · cases hc

theorem bd_some {A R : Type} {o : Option A} {f : A → Option R} {r : R} (h : bd o f = some r) : ∃ x, o = some x ∧ f x = some r := by
  cases o with
  | none => simp [bd] at h
  | some x => exact ⟨x, rfl, h⟩

theorem doOp_ok {R : Type} {E' : Env} {fn : E'.Fn} (hT : E'.T = C.T) (hfn : FnOk C.P E' fn) {o : Oper} {a : Act} {K : St → Option R} {res : R} (hs : Sat C σ w a) (he : doOp E' fn none o σ K = some res)
    {next : Act → World → Prop} {Q : Exit → Act → World → Prop} (hn : ∀ σ' a' w', K σ' = some res → Sat C σ' w' a' → (∀ i, some i ≠ o.dst → a'.tmps.getD i undef = a.tmps.getD i undef) → next a' w') : o.wp C.P a w next Q := by
  obtain ⟨hd, I, β, F, hi⟩ := hs
  have hg : Gok a.tmps none := fun d w h => by cases h
  unfold doOp at he
  unfold Oper.wp
  rw [act_eval]
  cases hc : calleeOf o with
  | none =>
    simp only [hc] at he
    cases hnt : nilTest E'.T o with
    | some p =>
      obtain ⟨x, u⟩ := p
      simp only [hnt] at he
      obtain ⟨av, n, c, h1, h2, h3⟩ := nilV hi (arg_ok hi hg x) he
      have key : ∀ b : Bool, b = (if av.isNone then u else !u) → AfterN C I σ w a.tmps (.v false .bool b) ((execOp (evT a.tmps) o).run C.P w) := by
        intro b hb
        unfold nilTest at hnt
        split at hnt
        · rename_i op t x' q ho
          split at hnt
          · rename_i e hu
            simp only [Option.some.injEq, Prod.mk.injEq] at hnt
            obtain ⟨rfl, rfl⟩ := hnt
            rw [hT] at hu
            unfold execOp; simp only [ho]
            refine After.v (s := (do eqGuard .eql t x' (.const (.slice none 0 0)) (evT a.tmps x') (evT a.tmps (.const (.slice none 0 0))); binOp .eql t (evT a.tmps x') (evT a.tmps (.const (.slice none 0 0))) : Sem Value)) ?_
            rw [show evT a.tmps (.const (.slice none 0 0)) = .slice none 0 0 from rfl, h1, Sem.run_bind, eqGuard_sl]
            simp only [Result.andThen_ok, binOp, Sem.run_bind, equal_sl_nil (und_ok hu)]
            have : b = av.isNone := by rw [hb]; cases av <;> rfl
            subst this
            exact (hi.after0 svr_bool).a hi
          · rename_i e hu
            simp only [Option.some.injEq, Prod.mk.injEq] at hnt
            obtain ⟨rfl, rfl⟩ := hnt
            rw [hT] at hu
            unfold execOp; simp only [ho]
            refine After.v (s := (do eqGuard .neq t x' (.const (.slice none 0 0)) (evT a.tmps x') (evT a.tmps (.const (.slice none 0 0))); binOp .neq t (evT a.tmps x') (evT a.tmps (.const (.slice none 0 0))) : Sem Value)) ?_
            rw [show evT a.tmps (.const (.slice none 0 0)) = .slice none 0 0 from rfl, h1, Sem.run_bind, eqGuard_sl]
            simp only [Result.andThen_ok, binOp, Sem.run_bind, equal_sl_nil (und_ok hu)]
            have : b = !av.isNone := by rw [hb]; cases av <;> rfl
            subst this
            exact (hi.after0 svr_bool).a hi
          · cases hnt
        · cases hnt
      have fin : ∀ b : Bool, b = (if av.isNone then u else !u) → putK σ o.dst (.v false .bool b) K = some res → Oper.upon C.P o a next Q ((execOp (evT a.tmps) o).run C.P w) := by
        intro b hb he
        obtain ⟨nx, v, w', I', β', F', k1, k2, k3, k4, k5, k6⟩ := key b hb
        rw [k1]
        obtain ⟨σ', g1, g2, g3⟩ := putK_ok hd k3 k4 he
        rcases k2 with rfl | ⟨rfl, rfl⟩
        · rw [Oper.upon_value]; exact hn _ _ _ g1 g2 g3
        · rw [Oper.upon_skip]; exact hn _ _ _ g1 g2 g3
      cases av with
      | none => exact fin u rfl (h2 rfl)
      | some _ => exact fin (!u) rfl h3
    | none =>
    simp only [hnt] at he
    cases hop : opD E' none o σ with
    | none => simp [hop] at he
    | some p =>
      obtain ⟨c, sv, σ1⟩ := p
      simp only [hop] at he
      rcases br_some he with ⟨rfl, he⟩ | ⟨_, he⟩
      · obtain ⟨nx, v, w', I', β', F', h1, h2, h3, h4, h5, h6⟩ := opD_ok hi hg hT hop
        rw [h1]
        obtain ⟨σ', k1, k2, k3⟩ := putK_ok hd h3 h4 he
        rcases h2 with rfl | ⟨rfl, rfl⟩
        · rw [Oper.upon_value]; exact hn _ _ _ k1 k2 k3
        · rw [Oper.upon_skip]; exact hn _ _ _ k1 k2 k3
      · cases he
  | some p =>
    obtain ⟨f, xs⟩ := p
    simp only [hc] at he
    cases hk : E'.known f with
    | false =>
      simp only [hk] at he
      cases hop : E'.prim f o.dst (xs.map (σ.arg none)) σ with
      | none => simp [hop] at he
      | some p =>
        obtain ⟨c, sv, σ1⟩ := p
        simp only [hop] at he
        rcases br_some he with ⟨rfl, he⟩ | ⟨_, he⟩
        · obtain ⟨⟨fd, f1, f2, f3⟩, f4⟩ := hfn.1 _ _ _ _ _ _ hop
          rw [exec_call hc f1 f2 f3, Oper.upon_enter]
          refine (f4 C rfl hT.symm hi (args_all hi hg xs)).mono ?_
          rintro e w' ⟨v, rfl, I', β', F', h3, h4⟩
          simp only
          obtain ⟨σ', k1, k2, k3⟩ := putK_ok hd h3 h4 he
          exact hn _ _ _ k1 k2 k3
        · cases he
    | true =>
      simp only [hk] at he
      cases ha : argsV (E'.sig f).ps (xs.map (σ.arg none)) ⟨σ, [], [], [], []⟩ with
      | none => simp [ha] at he
      | some p =>
        obtain ⟨ar, p⟩ := p
        simp only [ha] at he
        cases hb : (apart p.owns p.lents && apart p.moved p.boxes && there p.σ p.owns && there p.σ p.lents) with
        | false => simp [hb] at he
        | true =>
          simp only [hb] at he
          simp only [Bool.and_eq_true] at hb
          obtain ⟨⟨q, ou⟩, hq, he⟩ := bd_some he
          obtain ⟨⟨fd, f1, f2, f3⟩, f4⟩ := hfn.2 f hk
          rw [exec_call hc f1 f2 f3, Oper.upon_enter]
          have hH := f4 ar q ou hq
          rw [hT] at hH
          refine (call_ok hi (args_all hi hg xs) ha hb.1.1.1 hb.1.1.2 hb.1.2 hb.2 hH).mono ?_
          rintro e w' ⟨v, rfl, I', F', vals, Ys, hB, hnn⟩
          simp only
          cases hr : retsV (E'.sig f).rs q (o.dst.getD 9000) (outsV (E'.sig f).ps (xs.map (σ.arg none)) ou (killL p.moved p.σ)) with
          | none => simp [hr] at he
          | some p2 =>
            obtain ⟨l, σ2⟩ := p2
            simp only [hr] at he
            obtain ⟨β2, F2, b1, b2, b3, b4⟩ := retsV_ok _ hB.inv hB.rets hB.nodup hB.own hB.apart hr
            obtain ⟨σ', k1, k2, k3⟩ := putK_ok hd b1 (tupV_ok b2) he
            rw [hB.val]
            exact hn _ _ _ k1 k2 k3

end
end Go.Proofs.Ytnffdeokhcojfaa.E

namespace Go.Proofs.Ytnffdeokhcojfaa.E
open Go
set_option linter.unusedSimpArgs false
set_option linter.unusedVariables false

section
variable {C : Ctx} {I : Set'} {β : Nat → Value} {F : Nat → List Nat} {σ : St} {w : World} {tm : Array Value}

theorem nthO_eq : ∀ (l : List Oper) (n : Nat), nthO l n = l[n]?
  | [], n => by simp [nthO]
  | o :: l, 0 => rfl
  | o :: l, n + 1 => by simp [nthO, nthO_eq l n]

theorem dstOf_eq {all : List Oper} {j : Nat} : dstOf all j = (all[j]?).bind (·.dst) := by
  unfold dstOf
  rw [nthO_eq]
  cases all[j]? <;> rfl

theorem yielded_some {ops : Array Oper} {tm : Array Value} {j d : Nat} {b : Bool} (hd : dstOf ops.toList j = some d) (h : tm.getD d undef = .bool b) : yielded ops tm j = some b := by
  rw [dstOf_eq] at hd
  have h1 : (ops[j]?).bind (·.dst) = some d := by simpa using hd
  unfold yielded
  rw [h1]
  have h2 : tm[d]? = some (.bool b) := by
    rw [Array.getD_eq_getD_getElem?] at h
    cases hq : tm[d]? with
    | none => rw [hq] at h; simp [undef] at h
    | some v => rw [hq] at h; simp at h; rw [h]
  simp [h2]

theorem yielded_none {ops : Array Oper} {tm : Array Value} {j d : Nat} (hd : dstOf ops.toList j = some d) (h : tm.getD d undef = undef) : yielded ops tm j = none := by
  rw [dstOf_eq] at hd
  have h1 : (ops[j]?).bind (·.dst) = some d := by simpa using hd
  unfold yielded
  rw [h1]
  cases hq : tm[d]? with
  | none => simp [hq]
  | some v =>
    rw [Array.getD_eq_getD_getElem?, hq] at h
    simp at h
    subst h
    simp [hq, undef]

/-- the slots that a list of operations writes -/
def dstL (l : List Oper) : List Nat := l.filterMap (·.dst)

theorem runOps_ok {R : Type} {E' : Env} {fn : E'.Fn} (hT : E'.T = C.T) (hfn : FnOk C.P E' fn) (ops : Array Oper) {K : St → Option R} {res : R} {Q : Exit → Act → World → Prop} (a0 : Act) :
    ∀ (l : List Oper) (k : Nat) {σ : St} {w : World} {a : Act}, ops.toList.drop k = l → Sat C σ w a → (∀ i, i ∉ dstL ops.toList → a.tmps.getD i undef = a0.tmps.getD i undef) → runOps E' fn ops.toList l σ K = some res →
      (∀ σ' a' w', K σ' = some res → Sat C σ' w' a' → (∀ i, i ∉ dstL ops.toList → a'.tmps.getD i undef = a0.tmps.getD i undef) → Q .normal a' w') → wpOps C.P ops Q (List.range' k l.length) a w
  | [], k, σ, w, a, _, hs, ht, he, hQ => hQ σ a w he hs ht
  | o :: l, k, σ, w, a, hl, hs, ht, he, hQ => by
    have ho : ops[k]? = some o := by
      have : ops.toList[k]? = some o := by
        have := congrArg (·[0]?) hl
        simpa using this
      simpa using this
    have hl' : ops.toList.drop (k + 1) = l := by
      rw [← List.drop_drop, hl]; rfl
    have hmem : ∀ d, o.dst = some d → d ∈ dstL ops.toList := fun d hd => by
      have : o ∈ ops.toList.drop k := by rw [hl]; simp
      exact List.mem_filterMap.2 ⟨o, List.mem_of_mem_drop this, hd⟩
    have hkeep : ∀ {a' : Act}, (∀ i, some i ≠ o.dst → a'.tmps.getD i undef = a.tmps.getD i undef) → ∀ i, i ∉ dstL ops.toList → a'.tmps.getD i undef = a0.tmps.getD i undef := by
      intro a' h i hi
      rw [h i (fun e => hi (hmem i e.symm)), ht i hi]
    rw [List.length_cons, List.range'_succ]
    simp only [wpOps, ho]
    -- the operation runs, and the rest
    have hrun : ∀ {σ : St}, Sat C σ w a → doOp E' fn none o σ (fun σ => runOps E' fn ops.toList l σ K) = some res → o.wp C.P a w (wpOps C.P ops Q (List.range' (k + 1) l.length)) Q :=
      fun hs he => doOp_ok hT hfn hs he fun σ' a' w' h1 h2 h3 => runOps_ok hT hfn ops a0 l (k + 1) hl' h2 (hkeep h3) h1 hQ
    have hskip : ∀ {σ : St} {d : Nat} {u : Bool}, Sat C σ w a → a.tmps.getD d undef ≠ .bool u → skipK σ o.dst d u (fun σ => runOps E' fn ops.toList l σ K) = some res → wpOps C.P ops Q (List.range' (k + 1) l.length) (a.put o.dst undef) w := by
      rintro σ d u ⟨hdf, I, β, F, hi⟩ hne he
      unfold skipK at he
      cases hdst : o.dst with
      | none =>
        simp only [hdst] at he
        exact runOps_ok hT hfn ops a0 l (k + 1) hl' ⟨hdf, I, β, F, hi⟩ (hkeep fun i _ => rfl) he hQ
      | some e =>
        simp only [hdst] at he
        cases hc : (Nat.blt e σ.n && !(Nat.beq e d)) with
        | false => simp [hc] at he
        | true =>
          simp only [hc] at he
          simp only [Bool.and_eq_true, Bool.not_eq_true'] at hc
          have hlt : e < σ.n := by have := hc.1; simpa [Nat.blt_eq] using this
          have hde : e ≠ d := by rintro rfl; have := hc.2; simp at this
          refine runOps_ok hT hfn ops a0 l (k + 1) hl' ⟨hdf, I, β, F, hi.putC hlt hde (fun h => absurd h hne) (fun _ => rfl)⟩ (hkeep fun i hi' => ?_) he hQ
          show (a.tmps.setIfInBounds e undef).getD i undef = _
          rw [getD_set (by rw [hi.size]; exact hlt), if_neg (by rintro rfl; exact hi' hdst.symm)]
    simp only [runOps] at he
    cases hgd : o.guard with
    | none =>
      simp only [hgd] at he
      have : Region.wanted o (yielded ops a.tmps) = true := by simp [Region.wanted, hgd]
      simp only [this, if_true]
      exact .inl (hrun hs he)
    | some jw =>
      obtain ⟨j, u⟩ := jw
      simp only [hgd] at he
      cases hd : dstOf ops.toList j with
      | none => simp [hd] at he
      | some d =>
        simp only [hd] at he
        have hw1 : ∀ b, a.tmps.getD d undef = .bool b → Region.wanted o (yielded ops a.tmps) = (b == u) := by
          intro b hb; simp [Region.wanted, hgd, yielded_some hd hb]
        have hw2 : a.tmps.getD d undef = undef → Region.wanted o (yielded ops a.tmps) = false := by
          intro hb; simp [Region.wanted, hgd, yielded_none hd hb]
        have htest : (test 12 d σ fun b σ' => match b with
          | some b => match boolEq b u with
            | true => doOp E' fn none o σ' fun σ => runOps E' fn ops.toList l σ K
            | false => skipK σ' o.dst d u fun σ => runOps E' fn ops.toList l σ K
          | none => skipK σ' o.dst d u fun σ => runOps E' fn ops.toList l σ K) = some res → (if Region.wanted o (yielded ops a.tmps) = true then Oper.wp C.P o a w (wpOps C.P ops Q (List.range' (k + 1) l.length)) Q ∨ Oper.asks C.P o a w ∧ LetsOut Q else wpOps C.P ops Q (List.range' (k + 1) l.length) (a.put o.dst undef) w) := fun he => by
          obtain ⟨hdf, I, β, F, hi⟩ := hs
          obtain ⟨b, σ', h1, h2, h3⟩ := test_ok 12 hi he
          cases b with
          | none =>
            rw [hw2 h3]
            simp only [Bool.false_eq_true, if_false]
            exact hskip ⟨hdf, I, β, F, h2⟩ (by simp only [Tested] at h3; rw [h3]; simp [undef]) h1
          | some b =>
            simp only at h1
            rw [hw1 b h3]
            cases hbu : boolEq b u with
            | true =>
              simp only [hbu] at h1
              obtain rfl := boolEq_iff hbu
              simp only [beq_self_eq_true, if_true]
              exact .inl (hrun ⟨hdf, I, β, F, h2⟩ h1)
            | false =>
              simp only [hbu] at h1
              have : (b == u) = false := by cases b <;> cases u <;> first | rfl | (simp [boolEq] at hbu)
              simp only [this, Bool.false_eq_true, if_false]
              exact hskip ⟨hdf, I, β, F, h2⟩ (by simp only [Tested] at h3; rw [h3]; intro e; simp only [Value.bool.injEq] at e; subst e; simp at this) h1

        cases htot : total o with
        | true =>
          simp only [htot] at he
          cases hop : opD E' (some (d, u)) o σ with
          | none => simp only [hop] at he; exact htest he
          | some p =>
            obtain ⟨c, sv, σ1⟩ := p
            simp only [hop] at he
            have hbr := br_some he
            clear he
            rcases hbr with ⟨rfl, he⟩ | ⟨_, he⟩
            · cases hdst : o.dst with
              | none => simp [hdst] at he
              | some e =>
                simp only [hdst] at he
                cases hc : (Nat.blt e σ.n && !(Nat.beq e d)) with
                | false => simp [hc] at he
                | true =>
                  simp only [hc, force_eq] at he
                  simp only [Bool.and_eq_true, Bool.not_eq_true'] at hc
                  have hlt : e < σ.n := by have := hc.1; simpa [Nat.blt_eq] using this
                  have hne : e ≠ d := by rintro rfl; have := hc.2; simp at this
                  obtain ⟨hdf, I, β, F, hi⟩ := hs
                  have hkeep' : ∀ v i, i ∉ dstL ops.toList → (a.put (some e) v).tmps.getD i undef = a0.tmps.getD i undef := by
                    intro v
                    refine hkeep fun i hi' => ?_
                    show (a.tmps.setIfInBounds e v).getD i undef = _
                    rw [getD_set (by rw [hi.size]; exact hlt), if_neg (by rintro rfl; exact hi' hdst.symm)]
                  by_cases hb : a.tmps.getD d undef = .bool u
                  · have hw := hw1 u hb
                    simp only [beq_self_eq_true] at hw
                    simp only [hw, if_true]
                    refine .inl ?_
                    obtain ⟨v, h1, h2⟩ := opQ_ok hi (g := some (d, u)) (fun d' u' h => by simp only [Option.some.injEq, Prod.mk.injEq] at h; obtain ⟨rfl, rfl⟩ := h; exact hb) hT (total_quiet htot) hop
                    unfold Oper.wp
                    rw [act_eval, h1, Oper.upon_value, hdst]
                    exact runOps_ok hT hfn ops a0 l (k + 1) hl' ⟨hdf, I, β, F, hi.putC hlt hne (fun _ => h2) (fun h => absurd hb h)⟩ (hkeep' v) he hQ
                  · have hw : Region.wanted o (yielded ops a.tmps) = false := by
                      cases hy : yielded ops a.tmps j with
                      | none => simp [Region.wanted, hgd, hy]
                      | some b =>
                        have : a.tmps.getD d undef = .bool b := by
                          unfold yielded at hy
                          have h1 : (ops[j]?).bind (·.dst) = some d := by rw [dstOf_eq] at hd; simpa using hd
                          rw [h1] at hy
                          simp only [Option.bind_some] at hy
                          split at hy
                          · rename_i b' hq
                            simp at hy
                            subst hy
                            rw [Array.getD_eq_getD_getElem?, hq]; rfl
                          · cases hy
                        rw [hw1 b this]
                        cases hbu : (b == u) with
                        | false => rfl
                        | true => exact absurd (by rw [this, eq_of_beq hbu]) hb
                    simp only [hw, Bool.false_eq_true, if_false]
                    exact runOps_ok hT hfn ops a0 l (k + 1) hl' ⟨hdf, I, β, F, hi.putC hlt hne (fun h => absurd h hb) (fun _ => rfl)⟩ (hkeep' undef) he hQ
            · cases he
        | false =>
          simp only [htot] at he
          exact htest he

end
end Go.Proofs.Ytnffdeokhcojfaa.E

namespace Go.Proofs.Ytnffdeokhcojfaa.E
open Go
set_option linter.unusedSimpArgs false
set_option linter.unusedVariables false

def QVal (E' : Env) (fn : E'.Fn) (o : Oper) (m : St) (sv : SV) : Prop :=
  (∃ f xs a p q ou, calleeOf o = some (f, xs) ∧ E'.known f = true ∧ quietRs (E'.sig f).rs = true ∧ argsV (E'.sig f).ps (xs.map (m.arg none)) ⟨m, [], [], [], []⟩ = some (a, p) ∧ nilL p.owns = true ∧ there p.σ p.lents = true ∧
    fn f a = some (q, ou) ∧ sv = firstV (E'.sig f).rs q) ∨
  (calleeOf o = none ∧ quietO E'.T o = true ∧ ∃ σ', opD E' none o m = some (true, sv, σ'))

theorem doQ_val {R : Type} {E' : Env} {fn : E'.Fn} {o : Oper} {m : St} {K : SV → Option R} {res : R} (h : doQ E' fn o m K = some res) : ∃ sv, QVal E' fn o m sv ∧ K sv = some res := by
  unfold doQ at h
  cases hq : quietB E' o with
  | false => simp [hq] at h
  | true =>
    simp only [hq] at h
    unfold quietB at hq
    cases hc : calleeOf o with
    | none =>
      simp only [hc] at h hq
      cases hop : opD E' none o m with
      | none => simp [hop] at h
      | some p =>
        obtain ⟨c, sv, σ1⟩ := p
        simp only [hop] at h
        have hbr := br_some h
        clear h
        rcases hbr with ⟨rfl, h⟩ | ⟨_, h⟩
        · rw [force_eq] at h
          exact ⟨sv, .inr ⟨hc, hq, σ1, hop⟩, h⟩
        · cases h
    | some p =>
      obtain ⟨f, xs⟩ := p
      simp only [hc, Bool.and_eq_true] at h hq
      cases ha : argsV (E'.sig f).ps (xs.map (m.arg none)) ⟨m, [], [], [], []⟩ with
      | none => simp [ha] at h
      | some p =>
        obtain ⟨a, p⟩ := p
        simp only [ha] at h
        cases hn : (nilL p.owns && there p.σ p.lents) with
        | false => simp [hn] at h
        | true =>
          simp only [hn] at h
          simp only [Bool.and_eq_true] at hn
          obtain ⟨⟨q, ou⟩, hf, h⟩ := bd_some h
          rw [force_eq] at h
          exact ⟨_, .inl ⟨f, xs, a, p, q, ou, hc, hq.1.1, hq.2, ha, hn.1, hn.2, hf, rfl⟩, h⟩

section
variable {C : Ctx} {I : Set'} {β : Nat → Value} {F : Nat → List Nat} {σ : St} {w : World} {tm : Array Value}

theorem firstV_ok {h h' : Hp} {L I I' : Set'} {ρ : List (Nat × Root)} : ∀ {rs : List Ty} {q : denL rs} {vals : List Value} {Ys : List (List Nat)}, quietRs rs = true → RetsR h I' rs q vals Ys → SVR h' L I β ρ (firstV rs q) (tupleV vals)
  | [], _, _, _, hrs, _ => by simp [quietRs] at hrs
  | _ :: _ :: _, _, _, _, hrs, _ => by simp [quietRs] at hrs
  | [τ], _, [], _, _, hr | [τ], _, _ :: _, [], _, hr => hr.elim
  | [τ], _, _ :: _ :: _, [_], _, ⟨_, hr⟩ | [τ], _, [_], _ :: _ :: _, _, ⟨_, hr⟩ | [τ], _, _ :: _ :: _, _ :: _ :: _, _, ⟨_, hr⟩ => hr.elim
  | [τ], (a, _), [v], [Y], hrs, ⟨⟨cs, h1, h2⟩, _⟩ => ⟨cs, (Rep.plain (by simpa [quietRs] using hrs) h1).2, h2⟩

/-- behind a quiet operation the world holds what it held -/
theorem qval_ok {E' : Env} {fn : E'.Fn} (hT : E'.T = C.T) (hfn : FnOk C.P E' fn) {o : Oper} {m : St} {a : Act} (hi : Inv C I β F m w a.tmps) {sv : SV} (hq : QVal E' fn o m sv) {next : Act → World → Prop} {Q : Exit → Act → World → Prop}
    (hn : ∀ v w', w.heap.size ≤ w'.heap.size → restOf w' = restOf w → (∀ b, b < w.heap.size → hpOf w' b = hpOf w b) → SVR (hpOf w') C.L I β m.r sv v → next (a.put o.dst v) w') : o.wp C.P a w next Q := by
  have hg : Gok a.tmps none := fun d w h => by cases h
  unfold Oper.wp
  rw [act_eval]
  rcases hq with ⟨f, xs, ar, p, q, ou, hc, hk, hrs, ha, hown, hth, hf, rfl⟩ | ⟨hc, hqo, σ', hop⟩
  · obtain ⟨⟨fd, f1, f2, f3⟩, f4⟩ := hfn.2 f hk
    rw [exec_call hc f1 f2 f3, Oper.upon_enter]
    have hH := f4 ar q ou hf
    rw [hT] at hH
    obtain ⟨I1, kss, b1, b2, b3, b4, b5, b6, b7, b8, b9, b10, b11, b12, b13, b14⟩ := argsV_ok (E'.sig f).ps hi ((args_all hi hg xs).imp fun sv _ v h => fun _ => h) ha
    have hks : kss.flatten = [] := by
      have h0 : p.owns = [] := by cases h : p.owns <;> simp [h, nilL] at hown ⊢
      rw [h0] at b5
      simp only [List.append_nil] at b5
      have hperm : (kss.reverse.flatten).Perm kss.flatten := (List.reverse_perm kss).flatten
      rw [← b5] at hperm
      exact List.Perm.nil_eq hperm |>.symm
    have hXs : (kss.map fun ks => (ks.map F).flatten).flatten = [] := by rw [flat_flat, hks]; rfl
    let C1 : Ctx := { P := C.P, T := C.T, h := hpOf w, n := w.heap.size, L := fun b => C.L b ∨ ∃ r ∈ p.lents, b ∈ F r, I := I1, X := fun b => False, z := restOf w
                      Iok := fun b hb => ⟨(b1.shared b hb).1, fun h => h⟩
                      Lok := fun b hb => by
                        refine ⟨?_, fun h => h⟩
                        rcases hb with hb | ⟨r, hr, hb⟩
                        · exact Nat.lt_of_lt_of_le (C.Lok b hb).1 b1.grow
                        · obtain ⟨R, hR⟩ := there_iff hth r hr
                          exact (b1.own r R hR b hb).2.2.1
                      ok := C.ok }
    have hArgs : ArgsR C1.h C1.L C1.I (E'.sig f).ps ar (xs.map (evT a.tmps)) (kss.map fun ks => (ks.map F).flatten) := b12 _ _ (fun b hb => .inl hb) (fun r hr b hb => .inr ⟨r, hr, hb⟩) (fun b hb => hb)
    refine (hH C1 rfl rfl w _ _ rfl rfl rfl hArgs (fun b => by rw [hXs]; simp [C1]) (by rw [hXs]; simp) (by rw [hXs]; simp)).mono ?_
    rintro e w' ⟨v, I', vals, Ys, Zs, rfl, hB⟩
    simp only
    refine hn v w' hB.grow hB.rest (fun b hb => hB.frame b hb (fun h => h)) ?_
    rw [hB.val]
    exact firstV_ok hrs hB.rets
  · obtain ⟨v, h1, h2⟩ := opQ_ok hi hg hT hqo hop
    rw [h1, Oper.upon_value]
    exact hn v w (Nat.le_refl _) rfl (fun _ _ => rfl) h2

end
end Go.Proofs.Ytnffdeokhcojfaa.E

namespace Go.Proofs.Ytnffdeokhcojfaa.E
open Go
set_option linter.unusedSimpArgs false
set_option linter.unusedVariables false

def SameV (ρ : List (Nat × Root)) (y z : SV) : Prop := ∀ h L I β v, SVR h L I β ρ y v ↔ SVR h L I β ρ z v

theorem SameV.rfl {ρ : List (Nat × Root)} {y : SV} : SameV ρ y y := fun _ _ _ _ _ => Iff.rfl

theorem SameV.bool {ρ : List (Nat × Root)} {l m b : Bool} : SameV ρ (.v l .bool b) (.v m .bool b) := fun h L I β v =>
  ⟨fun hs => by rw [of_bool hs]; exact svr_bool, fun hs => by rw [of_bool hs]; exact svr_bool⟩

/-- what is known of one operation of a drawn region -/
def QF (E' : Env) (fn : E'.Fn) (q : List Oper) (σF : St) (o : Oper) : Prop :=
  ∃ d, o.dst = some d ∧ d < σF.n ∧
  (((o.guard = none ∨ ∃ j u g, o.guard = some (j, u) ∧ dstOf q j = some g ∧ ∀ h L I β v, SVR h L I β σF.r (find σF.t g) v → v = .bool u) ∧
      ∃ m sv, m.r = σF.r ∧ m.n = σF.n ∧ m.c = [] ∧ (∀ s, s ∈ opSlots o.op.operands.toList → SameV σF.r (find m.t s) (find σF.t s)) ∧ (∀ s, s ∉ opSlots o.op.operands.toList → find m.t s = .x) ∧
        QVal E' fn o m sv ∧ SameV σF.r sv (find σF.t d)) ∨
   (∃ j u g, o.guard = some (j, u) ∧ dstOf q j = some g ∧ (∀ h L I β v, SVR h L I β σF.r (find σF.t g) v → v = .bool (!u)) ∧ SameV σF.r .x (find σF.t d)))

theorem idxOf_none {s : Nat} : ∀ {q : List Oper} {n : Nat}, idxOf q s n = none → ∀ o ∈ q, o.dst ≠ some s
  | [], _, _, o, h => by simp at h
  | o :: q, n, hn, o', ho => by
    simp only [idxOf] at hn
    cases hd : o.dst with
    | none =>
      simp only [hd] at hn
      rcases List.mem_cons.1 ho with rfl | ho
      · rw [hd]; simp
      · exact idxOf_none hn o' ho
    | some d =>
      simp only [hd] at hn
      cases hb : Nat.beq d s with
      | true => simp [hb] at hn
      | false =>
        simp only [hb] at hn
        rcases List.mem_cons.1 ho with rfl | ho
        · rw [hd]; intro e; simp only [Option.some.injEq] at e; subst e; simp at hb
        · exact idxOf_none hn o' ho

theorem idxOf_some {s : Nat} : ∀ {q : List Oper} {n i : Nat}, idxOf q s n = some i → ∃ k o, i = n + k ∧ q[k]? = some o ∧ o.dst = some s
  | [], _, _, h => by simp [idxOf] at h
  | o :: q, n, i, h => by
    simp only [idxOf] at h
    cases hd : o.dst with
    | none =>
      simp only [hd] at h
      obtain ⟨k, o', h1, h2, h3⟩ := idxOf_some h
      exact ⟨k + 1, o', by omega, by simpa using h2, h3⟩
    | some d =>
      simp only [hd] at h
      cases hb : Nat.beq d s with
      | true =>
        obtain rfl := Nat.eq_of_beq_eq_true hb
        simp only [hb, Option.some.injEq] at h
        exact ⟨0, o, by omega, rfl, hd⟩
      | false =>
        simp only [hb] at h
        obtain ⟨k, o', h1, h2, h3⟩ := idxOf_some h
        exact ⟨k + 1, o', by omega, by simpa using h2, h3⟩

/-- what the check of a drawn region says of one operation -/
structure Once (q : List Oper) (o : Oper) (k d : Nat) : Prop where
  dst : o.dst = some d
  idx : idxOf q d 0 = some k
  looks : looksOk q o k (slotsAll q o) = true
  back : edgesBack k o.after.toList = true

theorem once_mem {q : List Oper} : ∀ {l : List Oper} {k : Nat}, onceOk q l k = true → ∀ (i : Nat) (o : Oper), l[i]? = some o → ∃ d, Once q o (k + i) d
  | [], _, _, i, o, h => by simp at h
  | o :: l, k, h, i, o', ho => by
    simp only [onceOk, Bool.and_eq_true] at h
    obtain ⟨⟨⟨h1, h2⟩, h3⟩, h4⟩ := h
    cases i with
    | zero =>
      simp at ho
      subst ho
      cases hd : o.dst with
      | none => simp [hd] at h1
      | some d =>
        simp only [hd] at h1
        cases hi : idxOf q d 0 with
        | none => simp [hi] at h1
        | some j =>
          simp only [hi] at h1
          obtain rfl := Nat.eq_of_beq_eq_true h1
          exact ⟨d, hd, hi, h2, h3⟩
    | succ i =>
      obtain ⟨d, h⟩ := once_mem h4 i o' (by simpa using ho)
      exact ⟨d, by rw [show k + (i + 1) = k + 1 + i by omega]; exact h⟩

theorem looks_mem {q : List Oper} {o : Oper} {k : Nat} : ∀ {l : List Nat}, looksOk q o k l = true → ∀ s ∈ l, (idxOf q s 0 = none) ∨ ∃ i, idxOf q s 0 = some i ∧ hasEdge o.after.toList i = true ∧ i < k
  | [], _, s, h => by simp at h
  | x :: l, h, s, hs => by
    simp only [looksOk, Bool.and_eq_true] at h
    rcases List.mem_cons.1 hs with rfl | hs
    · cases hi : idxOf q s 0 with
      | none => exact .inl rfl
      | some i =>
        simp only [hi, Bool.and_eq_true] at h
        exact .inr ⟨i, rfl, h.1.1, by have := h.1.2; simpa [Nat.blt_eq] using this⟩
    · exact looks_mem h.2 s hs

theorem find_map {f : Nat → SV} {s : Nat} : ∀ {l : List Nat}, s ∈ l → find (l.map fun s => (s, f s)) s = f s
  | [], h => by simp at h
  | k :: l, h => by
    simp only [List.map_cons, find]
    cases hb : Nat.beq k s with
    | true => rw [Nat.eq_of_beq_eq_true hb]
    | false =>
      rcases List.mem_cons.1 h with rfl | h
      · simp at hb
      · exact find_map h

theorem find_map_not {f : Nat → SV} {s : Nat} : ∀ {l : List Nat}, s ∉ l → find (l.map fun s => (s, f s)) s = .x
  | [], _ => rfl
  | k :: l, h => by
    simp only [List.mem_cons, not_or] at h
    simp only [List.map_cons, find]
    rw [nbeq (fun e => h.1 e.symm)]
    exact find_map_not h.2

theorem guard_slot {q : List Oper} {o : Oper} {j : Nat} {u : Bool} {g : Nat} (h : o.guard = some (j, u)) (hg : dstOf q j = some g) : g ∈ slotsAll q o := by
  simp [slotsAll, h, hg]

theorem op_slot {q : List Oper} {o : Oper} {s : Nat} (h : s ∈ opSlots o.op.operands.toList) : s ∈ slotsAll q o := by
  unfold slotsAll
  split
  · split
    · simp [h]
    · exact h
  · exact h

theorem dstOf_mem {q : List Oper} {j g : Nat} (h : dstOf q j = some g) : g ∈ dstL q := by
  rw [dstOf_eq] at h
  cases ho : q[j]? with
  | none => simp [ho] at h
  | some o =>
    simp only [ho, Option.bind_some] at h
    exact List.mem_filterMap.2 ⟨o, List.mem_of_getElem? ho, h⟩

theorem putD_some {α : Type} {σ : St} {dst : Option Nat} {sv : SV} {K : St → Option α} {r : α} (h : putD σ dst sv K = some r) : ∃ d, dst = some d ∧ d < σ.n ∧ K { σ with t := (d, sv) :: σ.t } = some r := by
  cases dst with
  | none => simp [putD] at h
  | some d =>
    simp only [putD] at h
    cases hb : Nat.blt d σ.n with
    | false => simp [hb] at h
    | true => rw [hb] at h; exact ⟨d, rfl, by simpa [Nat.blt_eq] using hb, h⟩

theorem runQ_trace {R : Type} {E' : Env} {fn : E'.Fn} {q : List Oper} {K : St → Option R} {res : R} : ∀ (l : List Oper) (k : Nat) {σ : St}, onceOk q l k = true → (∀ o ∈ l, o ∈ q) → runQ E' fn q l σ K = some res →
    ∃ σF, K σF = some res ∧ σF.r = σ.r ∧ σF.n = σ.n ∧ σF.c = σ.c ∧ (∀ s, (∀ o ∈ l, o.dst ≠ some s) → SameV σ.r (find σ.t s) (find σF.t s)) ∧ (∀ s, s ∉ dstL q → find σF.t s = find σ.t s) ∧ ∀ o ∈ l, QF E' fn q σF o
  | [], k, σ, _, _, h => ⟨σ, h, rfl, rfl, rfl, fun _ _ => SameV.rfl, fun _ _ => rfl, by simp⟩
  | o :: l, k, σ, hon, hin, h => by
    obtain ⟨d, hO⟩ := once_mem hon 0 o rfl
    simp only [Nat.add_zero] at hO
    have hon2 : onceOk q l (k + 1) = true := by simp only [onceOk, Bool.and_eq_true] at hon; exact hon.2
    -- a slot that is looked at is written by nobody from here on
    have hfree : ∀ s ∈ slotsAll q o, ∀ o' ∈ o :: l, o'.dst ≠ some s := by
      intro s hs o' ho' he
      obtain ⟨i, hi, hlt⟩ := List.mem_iff_getElem.1 ho'
      have hget : (o :: l)[i]? = some o' := by rw [List.getElem?_eq_getElem hi, hlt]
      obtain ⟨d', hO'⟩ := once_mem hon i o' hget
      have : d' = s := by have := hO'.dst; rw [he] at this; exact (Option.some.inj this).symm
      subst this
      rcases looks_mem hO.looks d' hs with h0 | ⟨i', h1, _, h3⟩
      · rw [hO'.idx] at h0; cases h0
      · have := hO'.idx; rw [h1] at this; have := Option.some.inj this; omega
    have hdl : ∀ o' ∈ l, o'.dst ≠ some d := by
      intro o' ho' he
      obtain ⟨i, hi, hlt⟩ := List.mem_iff_getElem.1 ho'
      have hget : l[i]? = some o' := by rw [List.getElem?_eq_getElem hi, hlt]
      obtain ⟨d', hO'⟩ := once_mem hon2 i o' hget
      have : d' = d := by have := hO'.dst; rw [he] at this; exact (Option.some.inj this).symm
      subst this
      have := hO'.idx; rw [hO.idx] at this; have := Option.some.inj this; omega
    have hdq : d ∈ dstL q := List.mem_filterMap.2 ⟨o, hin o (by simp), hO.dst⟩
    -- the operation is reckoned in σ1, which says of the test's slot what it came to
    have exec : ∀ {σ1 : St}, σ1.r = σ.r → σ1.n = σ.n → σ1.c = σ.c → (∀ s, SameV σ.r (find σ.t s) (find σ1.t s)) → (∀ s, s ∉ dstL q → find σ1.t s = find σ.t s) →
        (o.guard = none ∨ ∃ j u g, o.guard = some (j, u) ∧ dstOf q j = some g ∧ find σ1.t g = .v false .bool u) →
        (doQ E' fn o (mini σ1 o) fun sv => putD σ1 o.dst sv fun σ => runQ E' fn q l σ K) = some res →
        ∃ σF, K σF = some res ∧ σF.r = σ.r ∧ σF.n = σ.n ∧ σF.c = σ.c ∧ (∀ s, (∀ o' ∈ o :: l, o'.dst ≠ some s) → SameV σ.r (find σ.t s) (find σF.t s)) ∧ (∀ s, s ∉ dstL q → find σF.t s = find σ.t s) ∧ ∀ o' ∈ o :: l, QF E' fn q σF o' := by
      intro σ1 hr hn hc hsame hout hgd h
      obtain ⟨sv, hq, h⟩ := doQ_val h
      obtain ⟨d', hd', hlt, h⟩ := putD_some h
      have : d' = d := by rw [hO.dst] at hd'; exact (Option.some.inj hd').symm
      subst this
      obtain ⟨σF, a1, a2, a3, a4, a5, a6, a7⟩ := runQ_trace l (k + 1) hon2 (fun o' ho' => hin o' (by simp [ho'])) h
      simp only at a2 a3 a4 a5 a6
      have hs : ∀ s, (∀ o' ∈ o :: l, o'.dst ≠ some s) → SameV σ.r (find σ1.t s) (find σF.t s) := by
        intro s hs
        have hne : s ≠ d' := by rintro rfl; exact hs o (by simp) hO.dst
        have := a5 s (fun o' ho' => hs o' (by simp [ho']))
        rw [find_cons_ne hne, hr] at this
        exact this
      refine ⟨σF, a1, a2.trans hr, a3.trans hn, a4.trans hc, ?_, ?_, ?_⟩
      · intro s hs' h' L I β v
        exact (hsame s h' L I β v).trans (hs s hs' h' L I β v)
      · intro s hs'
        rw [a6 s hs', find_cons_ne (by rintro rfl; exact hs' hdq), hout s hs']
      · intro o' ho'
        rcases List.mem_cons.1 ho' with rfl | ho'
        · refine ⟨d', hO.dst, by rw [a3]; exact hlt, .inl ⟨?_, mini σ1 o', sv, ?_, ?_, rfl, ?_, ?_, hq, ?_⟩⟩
          · rcases hgd with hgd | ⟨j, u, g, g1, g2, g3⟩
            · exact .inl hgd
            · refine .inr ⟨j, u, g, g1, g2, fun h' L I β v hv => ?_⟩
              have := (hs g (hfree g (guard_slot g1 g2)) h' L I β v).2 (by rw [a2, hr] at hv; exact hv)
              rw [g3] at this
              exact of_bool (b := u) this
          · show σ1.r = σF.r; rw [a2]
          · show σ1.n = σF.n; rw [a3]
          · intro s hs'
            simp only [mini]
            rw [find_map hs', a2, hr]
            exact hs s (hfree s (op_slot hs'))
          · intro s hs'
            simp only [mini]
            exact find_map_not hs'
          · have := a5 d' hdl
            rw [find_cons_same] at this
            rw [a2]; exact this
        · exact a7 o' ho'
    simp only [runQ] at h
    cases hgd : o.guard with
    | none =>
      simp only [hgd] at h
      exact exec rfl rfl rfl (fun _ => SameV.rfl) (fun _ _ => rfl) (.inl hgd) h
    | some ju =>
      obtain ⟨j, u⟩ := ju
      simp only [hgd] at h
      cases hd : dstOf q j with
      | none => simp [hd] at h
      | some g =>
        simp only [hd] at h
        split at h
        · rename_i lb b hb
          have hlit : ∀ c, b = c → ∀ s, SameV σ.r (find σ.t s) (find ((g, SV.v false .bool c) :: σ.t) s) := by
            rintro c rfl s
            by_cases e : s = g
            · subst e; rw [find_cons_same, hb]; exact SameV.bool
            · rw [find_cons_ne e]; exact SameV.rfl
          have hout : ∀ c s, s ∉ dstL q → find ((g, SV.v false .bool c) :: σ.t) s = find σ.t s := fun c s hs => find_cons_ne (by rintro rfl; exact hs (dstOf_mem hd))
          have hbr := br_some h
          clear h
          rcases hbr with ⟨hbu, h⟩ | ⟨hbu, h⟩
          · obtain rfl := boolEq_iff hbu
            exact exec (σ1 := { σ with t := (g, .v false .bool b) :: σ.t }) rfl rfl rfl (hlit b rfl) (hout b) (.inr ⟨j, b, g, hgd, hd, find_cons_same⟩) h
          · have hbn : b = !u := by cases b <;> cases u <;> simp [boolEq] at hbu ⊢
            obtain ⟨d', hd', hlt, h⟩ := putD_some h
            have : d' = d := by rw [hO.dst] at hd'; exact (Option.some.inj hd').symm
            subst this
            obtain ⟨σF, a1, a2, a3, a4, a5, a6, a7⟩ := runQ_trace l (k + 1) hon2 (fun o' ho' => hin o' (by simp [ho'])) h
            simp only at a2 a3 a4 a5 a6
            have hs : ∀ s, (∀ o' ∈ o :: l, o'.dst ≠ some s) → SameV σ.r (find ((g, SV.v false .bool (!u)) :: σ.t) s) (find σF.t s) := by
              intro s hs
              have hne : s ≠ d' := by rintro rfl; exact hs o (by simp) hO.dst
              have := a5 s (fun o' ho' => hs o' (by simp [ho']))
              rw [find_cons_ne hne] at this
              exact this
            refine ⟨σF, a1, a2, a3, a4, ?_, ?_, ?_⟩
            · intro s hs' h' L I β v
              exact (hlit (!u) hbn s h' L I β v).trans (hs s hs' h' L I β v)
            · intro s hs'
              rw [a6 s hs', find_cons_ne (by rintro rfl; exact hs' hdq), hout _ s hs']
            · intro o' ho'
              rcases List.mem_cons.1 ho' with rfl | ho'
              · refine ⟨d', hO.dst, by rw [a3]; exact hlt, .inr ⟨j, u, g, hgd, hd, ?_, ?_⟩⟩
                · intro h' L I β v hv
                  have := (hs g (hfree g (guard_slot hgd hd)) h' L I β v).2 (by rw [a2] at hv; exact hv)
                  rw [find_cons_same] at this
                  exact of_bool (b := !u) this
                · have := a5 d' hdl
                  rw [find_cons_same] at this
                  rw [a2]; exact this
              · exact a7 o' ho'
        · simp at h

end Go.Proofs.Ytnffdeokhcojfaa.E

namespace Go.Proofs.Ytnffdeokhcojfaa.E
open Go
set_option linter.unusedSimpArgs false
set_option linter.unusedVariables false

theorem split_spec {E' : Env} : ∀ {all q : List Oper} {z : Option Oper}, split E' all = some (q, z) → all = q ++ z.toList
  | [], q, z, h => by simp [split] at h; obtain ⟨rfl, rfl⟩ := h; rfl
  | [o], q, z, h => by
    simp only [split] at h
    cases hq : quietB E' o with
    | true => simp [hq] at h; obtain ⟨rfl, rfl⟩ := h; rfl
    | false => simp [hq] at h; obtain ⟨rfl, rfl⟩ := h; rfl
  | o :: o2 :: l, q, z, h => by
    simp only [split] at h
    cases hq : quietB E' o with
    | true =>
      simp only [hq] at h
      cases hs : split E' (o2 :: l) with
      | none => simp [hs] at h
      | some p =>
        obtain ⟨q', z'⟩ := p
        simp [hs] at h
        obtain ⟨rfl, rfl⟩ := h
        rw [split_spec hs]; rfl
    | false => simp [hq] at h

theorem hasEdge_mem {i : Nat} : ∀ {l : List Edge}, hasEdge l i = true → ∃ e ∈ l, e.on = i ∧ Region.binds .any e = true
  | [], h => by simp [hasEdge] at h
  | e :: l, h => by
    simp only [hasEdge, Bool.or_eq_true, Bool.and_eq_true] at h
    rcases h with h | h
    · exact ⟨e, by simp, Nat.eq_of_beq_eq_true h.1, h.2⟩
    · obtain ⟨e', h1, h2⟩ := hasEdge_mem h
      exact ⟨e', by simp [h1], h2⟩

theorem edgesBack_mem {k : Nat} : ∀ {l : List Edge}, edgesBack k l = true → ∀ e ∈ l, e.on < k
  | [], _, e, h => by simp at h
  | e :: l, h, e', he => by
    simp only [edgesBack, Bool.and_eq_true] at h
    rcases List.mem_cons.1 he with rfl | he
    · have := h.1; simpa [Nat.blt_eq] using this
    · exact edgesBack_mem h.2 e' he

theorem edgesAll_mem {o : Oper} : ∀ {n : Nat}, edgesAll o n = true → ∀ i, i < n → hasEdge o.after.toList i = true
  | 0, _, i, h => by omega
  | n + 1, h, i, hi => by
    simp only [edgesAll, Bool.and_eq_true] at h
    by_cases e : i = n
    · subst e; exact h.1
    · exact edgesAll_mem h.2 i (by omega)

/-- how many are not yet listed -/
def left (n : Nat) (listed : Array Bool) : Nat := ((List.range n).filter fun j => !listed.getD j true).length

theorem filter_lt {P P' : Nat → Bool} {i : Nat} : ∀ {l : List Nat}, (∀ x ∈ l, P' x = true → P x = true) → i ∈ l → P i = true → P' i = false → (l.filter P').length < (l.filter P).length
  | [], _, h, _, _ => by simp at h
  | k :: l, h, hi, h1, h2 => by
    have hle : ∀ m : List Nat, (∀ x ∈ m, P' x = true → P x = true) → (m.filter P').length ≤ (m.filter P).length := by
      intro m
      induction m with
      | nil => simp
      | cons x m ih =>
        intro hm
        have := ih (fun y hy => hm y (by simp [hy]))
        simp only [List.filter_cons]
        cases hp : P' x with
        | true => rw [hm x (by simp) hp]; simp; omega
        | false => cases P x <;> simp <;> omega
    simp only [List.filter_cons]
    rcases List.mem_cons.1 hi with rfl | hi
    · rw [h1, h2]
      have := hle l (fun y hy => h y (by simp [hy]))
      simp; omega
    · have := filter_lt (fun y hy => h y (by simp [hy])) hi h1 h2
      cases hp : P' k with
      | true => rw [h k (by simp) hp]; simp; omega
      | false => cases P k <;> simp <;> omega

theorem left_set {n i : Nat} {listed : Array Bool} (hi : i < n) (hl : listed.getD i true = false) : left n (listed.setIfInBounds i true) < left n listed := by
  have hlt : i < listed.size := by
    rcases Nat.lt_or_ge i listed.size with h | h
    · exact h
    · simp [Array.getElem?_eq_none h] at hl
  refine filter_lt (i := i) (fun j _ hj => ?_) (List.mem_range.2 hi) (by rw [hl]; rfl) (by simp [hlt])
  by_cases e : i = j
  · subst e; rw [hl]; rfl
  · rw [getD_set_ne true e] at hj; exact hj

theorem left_zero {n : Nat} {listed : Array Bool} (h : left n listed = 0) : ∀ j, j < n → listed.getD j true = true := by
  intro j hj
  have := List.eq_nil_of_length_eq_zero h
  rw [List.filter_eq_nil_iff] at this
  have := this j (List.mem_range.2 hj)
  cases hq : listed.getD j true with
  | true => rfl
  | false => rw [hq] at this; simp at this

section
variable {C : Ctx} {I : Set'} {β : Nat → Value} {F : Nat → List Nat}

/-- a greater world -/
theorem Inv.ext {σ : St} {w w' : World} {tm : Array Value} (hi : Inv C I β F σ w tm) (hsz : w.heap.size ≤ w'.heap.size) (hz : restOf w' = restOf w) (hh : ∀ b, b < w.heap.size → hpOf w' b = hpOf w b) : Inv C I β F σ w' tm := by
  have hI : ∀ b, I b → I b ∧ hpOf w' b = hpOf w b := fun b hb => ⟨hb, hh b (hi.shared b hb).1⟩
  have hL : ∀ b, C.L b → hpOf w' b = hpOf w b := fun b hb => hh b (Nat.lt_of_lt_of_le (C.Lok b hb).1 hi.grow)
  have := hi.change (w' := w') (I' := I) (F' := F) (ρ := σ.r) hsz hz hI hL (fun r R h => ⟨R, h, Root.like.refl R⟩) (fun r R hl => by
      have hR := hi.roots r R hl
      have hF : ∀ b ∈ F r, hpOf w' b = hpOf w b := fun b hb => hh b (hi.own r R hl b hb).2.2.1
      refine ⟨?_, hi.nodup r R hl, fun b hb => ?_⟩
      · cases R with
        | box l t x => exact Rep.keep (Sx.mono hI hL l) hF hR
        | arr l t x => exact Rep.keep (Sx.mono hI hL l) hF hR
      · have := hi.own r R hl b hb
        exact ⟨this.1, this.2.1, by omega, this.2.2.2⟩) hi.disj (fun b hb => by have := hi.shared b hb; exact ⟨by omega, this.2⟩)
    (fun b hb hX => by rw [hh b (Nat.lt_of_lt_of_le hb hi.grow)]; exact hi.frame b hb hX)
  exact this

/-- midway through a drawn region -/
structure Mid (C : Ctx) (I : Set') (β : Nat → Value) (ρ : List (Nat × Root)) (q : List Oper) (σF : St) (w0 : World) (a0 : Act) (listed : Array Bool) (w : World) (a : Act) : Prop where
  size : w0.heap.size ≤ w.heap.size
  rest : restOf w = restOf w0
  same : ∀ b, b < w0.heap.size → hpOf w b = hpOf w0 b
  defers : a.defers = []
  tmps : a.tmps.size = a0.tmps.size
  out : ∀ s, s ∉ dstL q → a.tmps.getD s undef = a0.tmps.getD s undef
  done : ∀ (i : Nat) (o : Oper) (d : Nat), q[i]? = some o → o.dst = some d → listed.getD i false = true → SVR (hpOf w0) C.L I β ρ (find σF.t d) (a.tmps.getD d undef)

theorem SVR.heap {h h' : Hp} {L : Set'} {ρ : List (Nat × Root)} {sv : SV} {v : Value} (hI : ∀ b, I b → h' b = h b) (hL : ∀ b, L b → h' b = h b) (hs : SVR h L I β ρ sv v) : SVR h' L I β ρ sv v :=
  SVR.mono (fun b hb => ⟨hb, hI b hb⟩) hL (fun r R _ hl => ⟨R, hl, Root.like.refl R, rfl⟩) hs

theorem draw_ok {E' : Env} {fn : E'.Fn} (hT : E'.T = C.T) (hfn : FnOk C.P E' fn) (ops : Array Oper) {σ σF : St} {w0 : World} {a0 : Act} {q : List Oper} {z : Option Oper} {Q : Exit → Act → World → Prop}
    (hi : Inv C I β F σ w0 a0.tmps) (hops : ops.toList = q ++ z.toList) (hon : onceOk q q 0 = true) (hr : σF.r = σ.r) (hnn : σF.n = σ.n) (hc : σF.c = []) (hout : ∀ s, s ∉ dstL q → find σF.t s = find σ.t s) (hqf : ∀ o ∈ q, QF E' fn q σF o)
    (hz : match z with
      | none => ∀ w a, Sat C σF w a → (∀ i, i ∉ dstL ops.toList → a.tmps.getD i undef = a0.tmps.getD i undef) → Q .normal a w
      | some o => o.guard = none ∧ edgesAll o q.length = true ∧ edgesBack q.length o.after.toList = true ∧
          ∀ w a, Sat C σF w a → (∀ i, i ∉ dstL ops.toList → a.tmps.getD i undef = a0.tmps.getD i undef) →
            ∀ K' : Act → World → Prop, (∀ a' w', Q .normal a' w' → K' a' w') → o.wp C.P a w K' Q) :
    ∀ (fuel : Nat) (listed : Array Bool) (w : World) (a : Act), listed.size = ops.size → left ops.size listed ≤ fuel → (∀ o, z = some o → listed.getD q.length true = false) → Mid C I β σ.r q σF w0 a0 listed w a → wpAny C.P .any ops Q fuel listed a w := by
  have hget : ∀ i, i < q.length → ops[i]? = q[i]? := by
    intro i hi'
    have : ops.toList[i]? = q[i]? := by rw [hops, List.getElem?_append_left hi']
    simpa using this
  have hlen : ops.size = q.length + z.toList.length := by rw [← Array.length_toList, hops, List.length_append]
  have hnat : ∀ i, i < q.length → ∃ o d, q[i]? = some o ∧ Once q o i d := by
    intro i hi'
    obtain ⟨d, h⟩ := once_mem hon i q[i] (List.getElem?_eq_getElem hi')
    exact ⟨q[i], d, List.getElem?_eq_getElem hi', by simpa using h⟩
  have hdstL : ∀ i, i ∉ dstL ops.toList → i ∉ dstL q := by
    intro i h1 h2
    apply h1
    rw [hops]
    obtain ⟨o, ho, hd⟩ := List.mem_filterMap.1 h2
    exact List.mem_filterMap.2 ⟨o, List.mem_append.2 (.inl ho), hd⟩
  have hIb : ∀ b, I b → b < w0.heap.size := fun b hb => (hi.shared b hb).1
  have hLb : ∀ b, C.L b → b < w0.heap.size := fun b hb => Nat.lt_of_lt_of_le (C.Lok b hb).1 hi.grow
  -- with all of the quiet ones behind
  have hfull : ∀ listed w a, Mid C I β σ.r q σF w0 a0 listed w a → (∀ i, i < q.length → listed.getD i true = true) → listed.size = ops.size → Sat C σF w a ∧ ∀ i, i ∉ dstL ops.toList → a.tmps.getD i undef = a0.tmps.getD i undef := by
    intro listed w a hM hall hls
    have h1 := hi.ext hM.size hM.rest hM.same
    refine ⟨⟨hM.defers, I, β, F, ?_⟩, fun i h => hM.out i (hdstL i h)⟩
    have hslots : ∀ s, SVR (hpOf w) C.L I β σ.r (find σF.t s) (a.tmps.getD s undef) := by
      intro s
      by_cases hs : s ∈ dstL q
      · obtain ⟨o, ho, hd⟩ := List.mem_filterMap.1 hs
        obtain ⟨i, hi', hio⟩ := List.mem_iff_getElem.1 ho
        have hio' : q[i]? = some o := by rw [List.getElem?_eq_getElem hi', hio]
        refine SVR.heap (fun b hb => hM.same b (hIb b hb)) (fun b hb => hM.same b (hLb b hb)) (hM.done i o s hio' hd ?_)
        have := hall i hi'
        have hlt : i < listed.size := by omega
        simpa [hlt] using this
      · rw [hout s hs, hM.out s hs]; exact h1.slots s
    constructor
    case size => rw [hM.tmps, hi.size, hnn]
    case slots => rw [hr]; exact hslots
    case conds => rw [hc]; intro k e u v hm; simp at hm
    case undefs => rw [hc]; intro k e u v hm; simp at hm
    case roots => rw [hr]; exact h1.roots
    case nodup => rw [hr]; exact h1.nodup
    case disj => rw [hr]; exact h1.disj
    case own => rw [hr]; exact h1.own
    case shared => exact h1.shared
    case sub => exact h1.sub
    case frame => exact h1.frame
    case grow => exact h1.grow
    case rest => exact h1.rest
  -- nothing is ready: all is done
  have hready : ∀ listed : Array Bool, listed.size = ops.size → Region.ready .any ops listed = [] → ∀ i, i < ops.size → listed.getD i true = true := by
    intro listed hls hr0 i
    induction i using Nat.strongRecOn with
    | _ i ih =>
      intro hi'
      cases hli : listed.getD i true with
      | true => rfl
      | false =>
        have : i ∈ Region.ready .any ops listed := by
          rw [mem_ready]
          refine ⟨hli, ops[i], by simp [hi'], ?_⟩
          intro e he _
          have hback : e.on < i := by
            by_cases hq : i < q.length
            · obtain ⟨o, d, h1, h2⟩ := hnat i hq
              have h3 : ops[i]? = some o := by rw [hget i hq]; exact h1
              have h4 : ops[i] = o := by simpa [hi'] using h3
              rw [h4] at he
              exact edgesBack_mem h2.back e (by simpa using he)
            · cases z with
              | none => simp at hlen; omega
              | some o =>
                have hiq : i = q.length := by simp at hlen; omega
                have h3 : ops.toList[i]? = some o := by rw [hops, hiq]; simp
                have h4 : ops[i] = o := by have : ops[i]? = some o := by simpa using h3
                                           simpa [hi'] using this
                rw [h4] at he
                rw [hiq]
                exact edgesBack_mem hz.2.2.1 e (by simpa using he)
          have := ih e.on hback (by omega)
          have hlt : e.on < listed.size := by omega
          simpa [hlt] using this
        rw [hr0] at this
        cases this
  have hend : ∀ listed w a, listed.size = ops.size → (∀ o, z = some o → listed.getD q.length true = false) → Mid C I β σ.r q σF w0 a0 listed w a → (∀ i, i < ops.size → listed.getD i true = true) → Q .normal a w := by
    intro listed w a hls hzl hM hall
    cases z with
    | none =>
      obtain ⟨h1, h2⟩ := hfull listed w a hM (fun i hi' => hall i (by omega)) hls
      exact hz w a h1 h2
    | some o =>
      have := hzl o rfl
      rw [hall q.length (by simp at hlen; omega)] at this
      cases this
  intro fuel
  induction fuel with
  | zero =>
    intro listed w a hls hleft hzl hM
    have hall := left_zero (Nat.le_zero.1 hleft)
    refine ⟨?_, hend listed w a hls hzl hM hall⟩
    cases hrd : Region.ready .any ops listed with
    | nil => rfl
    | cons i l =>
      have : i ∈ Region.ready .any ops listed := by rw [hrd]; simp
      obtain ⟨h1, o, ho, _⟩ := mem_ready.1 this
      rw [hall i (Array.getElem?_eq_some_iff.1 ho).1] at h1
      cases h1
  | succ fuel ih =>
    intro listed w a hls hleft hzl hM
    refine ⟨fun hr0 => hend listed w a hls hzl hM (hready listed hls hr0), fun i hir => ?_⟩
    obtain ⟨hun, o, ho, hafter⟩ := mem_ready.1 hir
    have hio : i < ops.size := (Array.getElem?_eq_some_iff.1 ho).1
    have hlt : i < listed.size := by omega
    have hlist : ∀ j, j < ops.size → hasEdge o.after.toList j = true → listed.getD j false = true := by
      intro j hj he
      obtain ⟨e, he1, rfl, he3⟩ := hasEdge_mem he
      exact hafter e (by simpa using he1) he3
    have hleft' : left ops.size (listed.setIfInBounds i true) ≤ fuel := by have := left_set (n := ops.size) hio hun; omega
    unfold wpOp
    simp only [ho]
    by_cases hq : i < q.length
    · -- a quiet one
      obtain ⟨o', d, h1, hO⟩ := hnat i hq
      have : o' = o := by have h3 := hget i hq; rw [ho, h1] at h3; exact (Option.some.inj h3).symm
      subst this
      have hmem : o' ∈ q := List.mem_of_getElem? h1
      obtain ⟨d', hd', hdn, hcase⟩ := hqf o' hmem
      have : d' = d := by have := hO.dst; rw [hd'] at this; exact Option.some.inj this
      subst this
      have hd0 : d' < a.tmps.size := by rw [hM.tmps, hi.size, ← hnn]; exact hdn
      have hdq : d' ∈ dstL q := List.mem_filterMap.2 ⟨o', hmem, hd'⟩
      -- what it looks at
      have hlook : ∀ s ∈ slotsAll q o', SVR (hpOf w0) C.L I β σ.r (find σF.t s) (a.tmps.getD s undef) := by
        intro s hs
        rcases looks_mem hO.looks s hs with h0 | ⟨j, h2, h3, h4⟩
        · have hns : s ∉ dstL q := fun hm => by
            obtain ⟨o2, ho2, hd2⟩ := List.mem_filterMap.1 hm
            exact idxOf_none h0 o2 ho2 hd2
          rw [hout s hns, hM.out s hns]
          exact hi.slots s
        · obtain ⟨k, o2, e1, e2, e3⟩ := idxOf_some h2
          simp only [Nat.zero_add] at e1
          subst e1
          exact hM.done j o2 s e2 e3 (hlist j (by omega) h3)
      have hnext : ∀ v w', w.heap.size ≤ w'.heap.size → restOf w' = restOf w → (∀ b, b < w.heap.size → hpOf w' b = hpOf w b) → SVR (hpOf w0) C.L I β σ.r (find σF.t d') v →
          wpAny C.P .any ops Q fuel (listed.setIfInBounds i true) (a.put o'.dst v) w' := by
        intro v w' hs1 hsz hs2 hv
        refine ih _ w' _ (by simp [hls]) hleft' ?_ ?_
        · intro o2 hz2
          rw [getD_set_ne true (by omega)]
          exact hzl o2 hz2
        · rw [hd']
          constructor
          case size => exact Nat.le_trans hM.size hs1
          case rest => exact hsz.trans hM.rest
          case same => intro b hb; rw [hs2 b (Nat.lt_of_lt_of_le hb hM.size), hM.same b hb]
          case defers => exact hM.defers
          case tmps => show (a.tmps.setIfInBounds d' v).size = _; rw [Array.size_setIfInBounds]; exact hM.tmps
          case out =>
            intro s hs
            show (a.tmps.setIfInBounds d' v).getD s undef = _
            rw [getD_set hd0, if_neg (by rintro rfl; exact hs hdq)]
            exact hM.out s hs
          case done =>
            intro j o2 d2 e1 e2 e3
            show SVR (hpOf w0) C.L I β σ.r (find σF.t d2) ((a.tmps.setIfInBounds d' v).getD d2 undef)
            rw [getD_set hd0]
            by_cases hdd : d2 = d'
            · subst hdd; simpa using hv
            · rw [if_neg hdd]
              refine hM.done j o2 d2 e1 e2 ?_
              by_cases hij : i = j
              · subst hij
                rw [h1] at e1
                obtain rfl := Option.some.inj e1
                rw [hd'] at e2
                exact absurd (Option.some.inj e2).symm hdd
              · rw [getD_set_ne false hij] at e3; exact e3
      have hpre : ∀ {j g : Nat}, dstOf q j = some g → dstOf ops.toList j = some g := by
        intro j g h
        rw [dstOf_eq] at h ⊢
        rw [hops]
        cases hqj : q[j]? with
        | none => simp [hqj] at h
        | some o2 =>
          have : j < q.length := (List.getElem?_eq_some_iff.1 hqj).1
          rw [List.getElem?_append_left this]; exact h
      rcases hcase with ⟨hgd, m, sv, hm1, hm2, hm3, hm4, hm5, hqv, hsv⟩ | ⟨j, u, g, g1, g2, g3, g4⟩
      · have hw : Region.wanted o' (yielded ops a.tmps) = true := by
          rcases hgd with hgd | ⟨j, u, g, g1, g2, g3⟩
          · simp [Region.wanted, hgd]
          · have := g3 _ _ _ _ _ (by rw [hr]; exact hlook g (guard_slot g1 g2))
            simp [Region.wanted, g1, yielded_some (hpre g2) this]
        simp only [hw, if_true]
        refine .inl ?_
        have h1' := hi.ext hM.size hM.rest hM.same
        have hmi : Inv C I β F m w a.tmps := by
          constructor
          case size => rw [hM.tmps, hi.size, hm2, hnn]
          case slots =>
            intro s
            rw [hm1, hr]
            by_cases hs : s ∈ opSlots o'.op.operands.toList
            · refine SVR.heap (fun b hb => hM.same b (hIb b hb)) (fun b hb => hM.same b (hLb b hb)) ?_
              have := hm4 s hs (hpOf w0) C.L I β (a.tmps.getD s undef)
              rw [hr] at this
              exact this.2 (hlook s (op_slot hs))
            · rw [hm5 s hs]; exact trivial
          case conds => rw [hm3]; intro k e u v hm; simp at hm
          case undefs => rw [hm3]; intro k e u v hm; simp at hm
          case roots => rw [hm1, hr]; exact h1'.roots
          case nodup => rw [hm1, hr]; exact h1'.nodup
          case disj => rw [hm1, hr]; exact h1'.disj
          case own => rw [hm1, hr]; exact h1'.own
          case shared => exact h1'.shared
          case sub => exact h1'.sub
          case frame => exact h1'.frame
          case grow => exact h1'.grow
          case rest => exact h1'.rest
        refine qval_ok hT hfn hmi hqv fun v w' hs1 hsz hs2 hv => hnext v w' hs1 hsz hs2 ?_
        rw [hm1, hr] at hv
        have h5 := hsv (hpOf w') C.L I β v
        rw [hr] at h5
        refine SVR.heap (fun b hb => ?_) (fun b hb => ?_) (h5.1 hv)
        · rw [hs2 b (Nat.lt_of_lt_of_le (hIb b hb) hM.size), hM.same b (hIb b hb)]
        · rw [hs2 b (Nat.lt_of_lt_of_le (hLb b hb) hM.size), hM.same b (hLb b hb)]
      · have hw : Region.wanted o' (yielded ops a.tmps) = false := by
          have := g3 _ _ _ _ _ (by rw [hr]; exact hlook g (guard_slot g1 g2))
          have hb := yielded_some (hpre g2) this
          simp only [Region.wanted, g1, hb]
          cases u <;> rfl
        simp only [hw, Bool.false_eq_true, if_false]
        refine hnext undef w (Nat.le_refl _) rfl (fun _ _ => rfl) ?_
        have := g4 (hpOf w0) C.L I β undef
        rw [hr] at this
        exact this.1 trivial
    · -- the last
      cases z with
      | none => simp at hlen; omega
      | some oz =>
        obtain ⟨hg, hE, hB, hrun⟩ := hz
        have hiq : i = q.length := by simp at hlen; omega
        have h3 : ops.toList[i]? = some oz := by rw [hops, hiq]; simp
        have : oz = o := by have : ops[i]? = some oz := by simpa using h3
                            rw [ho] at this; exact (Option.some.inj this).symm
        subst this
        have hw : Region.wanted oz (yielded ops a.tmps) = true := by simp [Region.wanted, hg]
        simp only [hw, if_true]
        refine .inl ?_
        have hall : ∀ j, j < q.length → listed.getD j true = true := by
          intro j hj
          have := hlist j (by omega) (edgesAll_mem hE j hj)
          have hlt' : j < listed.size := by omega
          simpa [hlt'] using this
        obtain ⟨h1, h2⟩ := hfull listed w a hM hall hls
        refine hrun w a h1 h2 _ fun a' w' hq' => wpAny_done ?_ hq' fuel
        cases hrd : Region.ready .any ops (listed.setIfInBounds i true) with
        | nil => rfl
        | cons j l =>
          have : j ∈ Region.ready .any ops (listed.setIfInBounds i true) := by rw [hrd]; simp
          obtain ⟨h1, o2, ho2, _⟩ := mem_ready.1 this
          have hj : j < ops.size := (Array.getElem?_eq_some_iff.1 ho2).1
          by_cases e : i = j
          · subst e; simp [hlt] at h1
          · rw [getD_set_ne true e, hall j (by simp at hlen; omega)] at h1
            cases h1

theorem runDraw_ok {R : Type} {E' : Env} {fn : E'.Fn} (hT : E'.T = C.T) (hfn : FnOk C.P E' fn) (hmx : C.P.follows .mixedOrders = true) {id : Nat} {ops : Array Oper} {σ : St} {w : World} {a : Act} {K : St → Option R} {res : R} {Q : Exit → Act → World → Prop}
    (hs : Sat C σ w a) (he : runDraw E' fn ops.toList σ K = some res)
    (hQ : ∀ σ' a' w', K σ' = some res → Sat C σ' w' a' → (∀ i, i ∉ dstL ops.toList → a'.tmps.getD i undef = a.tmps.getD i undef) → Q .normal a' w') : (Code.region id ops true).wp C.P Q a w := by
  obtain ⟨hd, I, β, F, hi⟩ := hs
  refine wp_region_any hmx ?_
  unfold runDraw at he
  cases hsp : split E' ops.toList with
  | none => simp [hsp] at he
  | some p =>
    obtain ⟨q, z⟩ := p
    simp only [hsp] at he
    cases hon : onceOk q q 0 with
    | false => simp [hon] at he
    | true =>
      simp only [hon] at he
      have hops := split_spec hsp
      obtain ⟨σF, a1, a2, a3, a4, a5, a6, a7⟩ := runQ_trace q 0 hon (fun _ h => h) he
      have hi0 : Inv C I β F { σ with c := [] } { w with drawn := w.drawn + 1 } a.tmps := by
        have h1 : Inv C I β F { σ with c := [] } w a.tmps :=
          { size := hi.size, slots := hi.slots, conds := (by intro k e u v hm; simp at hm), undefs := (by intro k e u v hm; simp at hm), roots := hi.roots, nodup := hi.nodup, disj := hi.disj, own := hi.own, shared := hi.shared, sub := hi.sub, frame := hi.frame, grow := hi.grow, rest := hi.rest }
        exact h1.same rfl
      refine draw_ok hT hfn ops (w0 := { w with drawn := w.drawn + 1 }) (a0 := a) hi0 hops hon a2 a3 a4 a6 a7 ?_ ops.size _ _ a (by simp) (by unfold left; exact Nat.le_trans (List.length_filter_le _ _) (by simp)) ?_ ?_
      · cases z with
        | none => exact fun w' a' h1 h2 => hQ _ _ _ a1 h1 h2
        | some o =>
          simp only at a1
          cases hb : (noneG o.guard && edgesAll o q.length && edgesBack q.length o.after.toList) with
          | false => simp [hb] at a1
          | true =>
            simp only [hb] at a1
            simp only [Bool.and_eq_true] at hb
            refine ⟨by have := hb.1.1; cases hg : o.guard <;> simp [hg, noneG] at this ⊢, hb.1.2, hb.2, ?_⟩
            intro w' a' h1 h2 K' hK'
            refine doOp_ok hT hfn h1 a1 fun σ' a'' w'' h3 h4 h5 => hK' _ _ (hQ _ _ _ h3 h4 ?_)
            intro i hi'
            rw [h5 i (fun e => ?_), h2 i hi']
            apply hi'
            rw [hops]
            exact List.mem_filterMap.2 ⟨o, by simp, e.symm⟩
      · intro o ho
        subst ho
        have : q.length < ops.size := by rw [← Array.length_toList, hops]; simp
        simp [this]
      · constructor
        case size => exact Nat.le_refl _
        case rest => rfl
        case same => exact fun _ _ => rfl
        case defers => exact hd
        case tmps => rfl
        case out => exact fun _ _ => rfl
        case done =>
          intro i o d h1 h2 h3
          have h4 : i < ops.size ∨ ops.size ≤ i := Nat.lt_or_ge _ _
          rcases h4 with h4 | h4
          · simp [h4] at h3
          · simp [Nat.not_lt.2 h4] at h3

end
end Go.Proofs.Ytnffdeokhcojfaa.E

namespace Go.Proofs.Ytnffdeokhcojfaa.E
open Go
set_option linter.unusedSimpArgs false
set_option linter.unusedVariables false

section
variable {C : Ctx} {β : Nat → Value} {F : Nat → List Nat} {w : World} {tm : Array Value}

/-- what is handed back: its memory is nobody's any more -/
structure Taken (C : Ctx) (I : Set') (β : Nat → Value) (F : Nat → List Nat) (σ σ' : St) (w : World) (tm : Array Value) (I' : Set') (Y : List Nat) : Prop where
  inv : Inv C I' β F σ' w tm
  sub : ∀ b, I b → I' b
  nodup : Y.Nodup
  own : ∀ b ∈ Y, ¬ I' b ∧ ¬ C.L b ∧ b < w.heap.size ∧ (C.X b ∨ C.n ≤ b)
  apart : ∀ r R, look σ'.r r = some R → ∀ b ∈ Y, b ∉ F r
  more : ∀ b, I' b → I b ∨ ∃ k R, look σ.r k = some R ∧ b ∈ F k
  roots : ∀ k R, look σ'.r k = some R → look σ.r k = some R
  from_ : ∀ b ∈ Y, ∃ k R, look σ.r k = some R ∧ b ∈ F k

theorem takeV_ok {I : Set'} {σ σ' : St} (hi : Inv C I β F σ w tm) {τ : Ty} {sv : SV} {v : Value} {y : den τ} (hs : SVR (hpOf w) C.L I β σ.r sv v) (he : takeV τ sv σ = some (y, σ')) :
    ∃ I' Y, Taken C I β F σ σ' w tm I' Y ∧ ∃ cs, Rep (hpOf w) I' false τ y cs Y ∧ v = wrapV τ cs := by
  have flatCase : τ.flat = true → (match sharedV σ sv with | (sv, σ) => match toV false τ sv with | some y => some (y, σ) | none => none) = some (y, σ') →
      ∃ I' Y, Taken C I β F σ σ' w tm I' Y ∧ ∃ cs, Rep (hpOf w) I' false τ y cs Y ∧ v = wrapV τ cs := by
    intro hf he
    cases hsh : sharedV σ sv with
    | mk sv' σ1 =>
      simp only [hsh] at he
      cases ht : toV false τ sv' with
      | none => simp [ht] at he
      | some z =>
        simp [ht] at he
        obtain ⟨rfl, rfl⟩ := he
        obtain ⟨I', h1, h2, h3, h4, h5, h6, h7⟩ := shared_ok' hi hs hsh
        obtain ⟨cs, e1, e2⟩ := toV_ok ht h2
        refine ⟨I', [], ⟨h1, h3, by simp, by simp, by simp, fun b hb => ?_, h7, by simp⟩, cs, rep_any hf (e1.wide (fun b hb => ?_)), e2⟩
        · rcases h6 b hb with h | ⟨k, R, g1, _, g2⟩
          · exact .inl h
          · exact .inr ⟨k, R, g1, g2⟩
        · rcases hb with hb | ⟨hb, _⟩
          · exact hb
          · cases hb
  have killCase : ∀ r R, look σ.r r = some R → Taken C I β F σ (σ.kill r) w tm I (F r) := by
    intro r R hl
    exact ⟨hi.kill r, fun _ h => h, hi.nodup r R hl, hi.own r R hl, fun k R' hk b hb => by
      obtain ⟨h1, h2⟩ := look_del hk
      exact hi.disj r k R R' (fun e => h1 e.symm) hl h2 b hb, fun b h => .inl h, fun k R' hk => (look_del hk).2, fun b hb => ⟨r, R, hl, hb⟩⟩
  cases τ with
  | ref o u =>
    cases o with
    | false => simp only [takeV] at he; split at he <;> first | (rename_i hf; exact flatCase hf he) | (simp at he)
    | true =>
      simp only [takeV] at he
      split at he
      · rename_i r
        split at he
        · rename_i t b hl
          cases hc : cast? (t := t) u b with
          | none => simp [hc] at he
          | some z =>
            simp [hc] at he
            obtain ⟨rfl, rfl⟩ := he
            obtain ⟨rfl, hx⟩ := cast?_some hc
            have := eq_of_heq hx
            subst this
            obtain ⟨R, o, u', h1, h2, h3, h4⟩ := hs
            rw [hl] at h1
            obtain rfl := Option.some.inj h1
            simp only [Root.off, selOff, Option.some.injEq, Prod.mk.injEq] at h2
            obtain ⟨rfl, rfl⟩ := h2
            have hR := hi.roots r _ hl
            have hv : v = β r := by
              obtain ⟨b', ob, arr, E', fr, X', e1, e2, e3, e4, e5⟩ := hR
              simp only [List.cons.injEq, and_true] at e1
              rw [h4, e1]; simp [ptrOf]
            exact ⟨I, F r, killCase r _ hl, [β r], Rep.wide (fun b hb => by rcases hb with hb | ⟨hb, _⟩; exact hb; cases hb) hR, hv⟩
        · simp at he
      · simp at he
  | sl o u =>
    cases o with
    | false => simp only [takeV] at he; split at he <;> first | (rename_i hf; exact flatCase hf he) | (simp at he)
    | true =>
      simp only [takeV] at he
      split at he
      · rename_i r
        split at he
        · rename_i t xs hl
          cases hc : cast? (t := .sl true t) (.sl true u) xs with
          | none => simp [hc] at he
          | some z =>
            simp [hc] at he
            obtain ⟨rfl, rfl⟩ := he
            obtain ⟨h0, hx⟩ := cast?_some hc
            simp only [Ty.sl.injEq, true_and] at h0
            subst h0
            have := eq_of_heq hx
            subst this
            obtain ⟨l', t', xs', hl', hv⟩ := hs
            have hR := hi.roots r _ hl
            exact ⟨I, F r, killCase r _ hl, [β r], Rep.wide (fun b hb => by rcases hb with hb | ⟨hb, _⟩; exact hb; cases hb) hR, hv⟩
        · simp at he
      · simp at he
        obtain ⟨rfl, rfl⟩ := he
        obtain ⟨a0, rfl⟩ : ∃ a0, v = .slice a0 0 0 := hs
        exact ⟨I, [], ⟨hi, fun _ h => h, by simp, by simp, by simp, fun _ h => .inl h, fun _ _ h => h, by simp⟩, [.slice a0 0 0], ⟨a0, 0, rfl, Nat.le_refl _, .inl ⟨rfl, rfl, rfl, rfl⟩⟩, rfl⟩
      · simp at he
  | _ => simp only [takeV] at he; split at he <;> first | (rename_i hf; exact flatCase hf he) | (simp at he)

def resF (tm : Array Value) : ResultVar → Sem Value
  | .tmp t => pure (tm.getD t undef)
  | .cell a t => do loadVar t (← asAddr (tm.getD a undef))

theorem load_sure {t : TypeId} {va v : Value} (h : (Instr.loadAt t va).run C.P w = .ok v w) : (do loadVar t (← asAddr va) : Sem Value).run C.P w = .ok v w := by
  unfold Instr.loadAt at h
  cases va with
  | pointer a =>
    cases a with
    | some a => simpa [Instr.sureAddr, asAddr] using h
    | none => simp [Instr.sureAddr, Sem.run_bind, stuck] at h
  | _ => simp [Instr.sureAddr, Sem.run_bind, stuck] at h

theorem taken_one {τ : Ty} {rs : List Ty} {I : Set'} {rv : List ResultVar} {x : ResultVar} {σ σ' : St} {q : denL (τ :: rs)} {v : Value} {sv : SV} (hi : Inv C I β F σ w tm) (hsv : SVR (hpOf w) C.L I β σ.r sv v) (hx : (resF tm x).run C.P w = .ok v w)
    (ih : ∀ {I : Set'} {σ σ' : St} {q : denL rs}, Inv C I β F σ w tm → takesV C.T rs rv σ = some (q, σ') →
      ∃ I' Ys vals, Taken C I β F σ σ' w tm I' Ys.flatten ∧ RetsR (hpOf w) I' rs q vals Ys ∧ (rv.mapM (resF tm)).run C.P w = .ok vals w)
    (he : (match takeV τ sv σ with
      | some (a, σ) => match takesV C.T rs rv σ with
        | some (r, σ) => some ((a, r), σ)
        | none => none
      | none => none) = some (q, σ')) :
    ∃ I' Ys vals, Taken C I β F σ σ' w tm I' Ys.flatten ∧ RetsR (hpOf w) I' (τ :: rs) q vals Ys ∧ ((x :: rv).mapM (resF tm)).run C.P w = .ok vals w := by
    cases h1 : takeV τ sv σ with
    | none => simp [h1] at he
    | some p =>
      obtain ⟨y, σ1⟩ := p
      simp only [h1] at he
      cases h2 : takesV C.T rs rv σ1 with
      | none => simp [h2] at he
      | some p =>
        obtain ⟨r, σ2⟩ := p
        simp only [h2, Option.some.injEq, Prod.mk.injEq] at he
        obtain ⟨rfl, rfl⟩ := he
        obtain ⟨I1, Y, hT, cs, hr, hv⟩ := takeV_ok hi hsv h1
        obtain ⟨I2, Ys, vals, hT2, hrs, hrv⟩ := ih hT.inv h2
        have hYI : ∀ b ∈ Y, ¬ I2 b := fun b hb h => by
          rcases hT2.more b h with h | ⟨k, R, g1, g2⟩
          · exact (hT.own b hb).1 h
          · exact hT.apart k R g1 b hb g2
        refine ⟨I2, Y :: Ys, v :: vals, ⟨hT2.inv, fun b hb => hT2.sub b (hT.sub b hb), ?_, ?_, ?_, ?_, fun k R h => hT.roots k R (hT2.roots k R h), ?_⟩, ⟨⟨cs, hr.wide (fun b hb => hT2.sub b hb), hv⟩, hrs⟩, by rw [List.mapM_cons]; simp [Sem.run_bind, hx, hrv]⟩
        · simp only [List.flatten_cons, List.nodup_append]
          refine ⟨hT.nodup, hT2.nodup, ?_⟩
          rintro b hb c hc rfl
          obtain ⟨k, R, g1, g2⟩ := hT2.from_ b hc
          exact hT.apart k R g1 b hb g2
        · intro b hb
          simp only [List.flatten_cons, List.mem_append] at hb
          rcases hb with hb | hb
          · have := hT.own b hb; exact ⟨hYI b hb, this.2⟩
          · exact hT2.own b hb
        · intro k R hk b hb
          simp only [List.flatten_cons, List.mem_append] at hb
          rcases hb with hb | hb
          · exact hT.apart k R (hT2.roots k R hk) b hb
          · exact hT2.apart k R hk b hb
        · intro b hb
          rcases hT2.more b hb with h | ⟨k, R, g1, g2⟩
          · exact hT.more b h
          · exact .inr ⟨k, R, hT.roots k R g1, g2⟩
        · intro b hb
          simp only [List.flatten_cons, List.mem_append] at hb
          rcases hb with hb | hb
          · exact hT.from_ b hb
          · obtain ⟨k, R, g1, g2⟩ := hT2.from_ b hb
            exact ⟨k, R, hT.roots k R g1, g2⟩

theorem takesV_ok : ∀ (rs : List Ty) {I : Set'} {rv : List ResultVar} {σ σ' : St} {q : denL rs}, Inv C I β F σ w tm → takesV C.T rs rv σ = some (q, σ') →
    ∃ I' Ys vals, Taken C I β F σ σ' w tm I' Ys.flatten ∧ RetsR (hpOf w) I' rs q vals Ys ∧ (rv.mapM (resF tm)).run C.P w = .ok vals w
  | [], I, [], σ, σ', q, hi, he => by
    simp [takesV] at he
    obtain ⟨_, rfl⟩ := he
    exact ⟨I, [], [], ⟨hi, fun _ h => h, by simp, by simp, by simp, fun _ h => .inl h, fun _ _ h => h, by simp⟩, trivial, rfl⟩
  | [], I, _ :: _, σ, σ', q, hi, he => by simp [takesV] at he
  | _ :: _, I, [], σ, σ', q, hi, he => by simp [takesV] at he
  | τ :: rs, I, .cell s ty :: rv, σ, σ', q, hi, he => by
    simp only [takesV] at he
    split at he
    · rename_i sv σ1 h0
      obtain ⟨v, k1, k2, k3⟩ := opLoad_ok hi (hi.slots s) h0
      subst k2
      exact taken_one hi k3 (load_sure k1) (fun h1 h2 => takesV_ok rs h1 h2) he
    · cases he
  | τ :: rs, I, .tmp t :: rv, σ, σ', q, hi, he => by
    simp only [takesV] at he
    exact taken_one hi (hi.slots t) (by simp [resF]) (fun h1 h2 => takesV_ok rs h1 h2) he

/-- ready to return -/
def RetS (C : Ctx) (rs : List Ty) (rv : List ResultVar) (q : denL rs) (σ : St) (w : World) (a : Act) : Prop :=
  a.defers = [] ∧ ∃ vals, (rv.mapM (resF a.tmps)).run C.P w = .ok vals w ∧ ∃ I β F Ys, Inv C I β F { σ with n := a.tmps.size } w a.tmps ∧ RetsR (hpOf w) I rs q vals Ys ∧ Ys.flatten.Nodup ∧
    (∀ b ∈ Ys.flatten, ¬ I b ∧ ¬ C.L b ∧ b < w.heap.size ∧ (C.X b ∨ C.n ≤ b)) ∧ (∀ r R, look σ.r r = some R → ∀ b ∈ Ys.flatten, b ∉ F r)

theorem ret_ok {rs : List Ty} {rv : List ResultVar} {σ σ' : St} {q : denL rs} {a : Act} (hs : Sat C σ w a) (he : takesV C.T rs rv σ = some (q, σ')) : RetS C rs rv q σ' w a := by
  obtain ⟨hd, I, β, F, hi⟩ := hs
  obtain ⟨I', Ys, vals, hT, hR, hrv⟩ := takesV_ok rs hi he
  refine ⟨hd, vals, hrv, I', β, F, Ys, ?_, hR, hT.nodup, hT.own, hT.apart⟩
  rw [hT.inv.size]; exact hT.inv

end
end Go.Proofs.Ytnffdeokhcojfaa.E

namespace Go.Proofs.Ytnffdeokhcojfaa.E
open Go
set_option linter.unusedSimpArgs false
set_option linter.unusedVariables false

theorem SVR0.wide {h : Hp} {L L' I I' : Set'} {β : Nat → Value} {ρ : List (Nat × Root)} {sv : SV} {v : Value} (hL : ∀ b, L b → L' b) (hI : ∀ b, I b → I' b) (hs : SVR0 h L I β ρ sv v) : SVR0 h L' I' β ρ sv v := by
  cases sv with
  | v len t a => obtain ⟨cs, h1, h2⟩ := hs; exact ⟨cs, h1.wide (Sx.up hL hI (fun h => h)), h2⟩
  | q len t a => exact Rep.wide (Sx.up hL hI (fun h => h)) hs
  | _ => exact hs

theorem SVR.wide {h : Hp} {L L' I I' : Set'} {β : Nat → Value} {ρ : List (Nat × Root)} {sv : SV} {v : Value} (hL : ∀ b, L b → L' b) (hI : ∀ b, I b → I' b) (hs : SVR h L I β ρ sv v) : SVR h L' I' β ρ sv v := by
  cases sv with
  | tup l => obtain ⟨vs, h1, h2⟩ := hs; exact ⟨vs, h1, h2.imp fun sv _ v h => SVR0.wide hL hI h⟩
  | v len t a => exact SVR0.wide (β := β) (ρ := ρ) (sv := .v len t a) hL hI hs
  | q len t a => exact SVR0.wide (β := β) (ρ := ρ) (sv := .q len t a) hL hI hs
  | _ => exact hs

/-- what is read as a value hangs on no root -/
theorem SVR.free {h : Hp} {L I : Set'} {β β' : Nat → Value} {ρ ρ' : List (Nat × Root)} {sv : SV} {v : Value} (hu : ∀ r, sv.uses r = false) (hs : SVR h L I β ρ sv v) : SVR h L I β' ρ' sv v := by
  cases sv with
  | tup l => have := hu 0; obtain ⟨vs, h1, h2⟩ := hs
             refine ⟨vs, h1, h2.imp fun sv hm v h => ?_⟩
             have : ∀ r, sv.uses0 r = false := fun r => by
               cases hq : sv.uses0 r with
               | false => rfl
               | true => have := anyUses0_mem hm hq; have h2 := hu r; simp only [SV.uses] at h2; rw [this] at h2; cases h2
             cases sv with
             | p k z => have := this k; simp [SV.uses0] at this
             | sf k => have := this k; simp [SV.uses0] at this
             | s k _ _ => have := this k; simp [SV.uses0] at this
             | tup _ => exact h.elim
             | _ => exact h
  | p k z => have := hu k; simp [SV.uses, SV.uses0] at this
  | sf k => have := hu k; simp [SV.uses, SV.uses0] at this
  | s k _ _ => have := hu k; simp [SV.uses, SV.uses0] at this
  | _ => exact hs

section
variable {C : Ctx} {I : Set'} {β : Nat → Value} {F : Nat → List Nat} {w : World} {tm : Array Value}

/-- a root that is well kept -/
structure Kept (C : Ctx) (I : Set') (w : World) (v : Value) (R : Root) (X : List Nat) : Prop where
  root : RootR (hpOf w) C.L I v R X
  nodup : X.Nodup
  own : ∀ b ∈ X, ¬ I b ∧ ¬ C.L b ∧ b < w.heap.size ∧ (C.X b ∨ C.n ≤ b)

/-- what a loop may take in -/
structure Src (C : Ctx) (I : Set') (β : Nat → Value) (F : Nat → List Nat) (σ : St) (w : World) (tm : Array Value) (xs : List LV) : Prop where
  kept : ∀ r ∈ takenNames σ xs, ∀ R, look σ.r r = some R → Kept C I w (β r) R (F r)
  disj : ∀ r ∈ takenNames σ xs, ∀ r' ∈ takenNames σ xs, ∀ R R', r ≠ r' → look σ.r r = some R → look σ.r r' = some R' → ∀ b ∈ F r, b ∉ F r'
  slots : ∀ i, SVR (hpOf w) C.L I β σ.r (find σ.t i) (tm.getD i undef)

def srcF (σ : St) (F : Nat → List Nat) : List LV → Nat → List Nat
  | [], _ => []
  | .r n _ _ :: l, k => if k = n then F n else srcF σ F l k
  | .a n _ _ :: l, k => if k = n then F n else srcF σ F l k
  | .o s _ _ :: l, k => if k = canon s then (match find σ.t s with | .sf r => F r | _ => []) else srcF σ F l k
  | .t _ _ _ :: l, k => srcF σ F l k

def srcB (β : Nat → Value) (tm : Array Value) : List LV → Nat → Value
  | [], k => β k
  | .r n _ _ :: l, k => if k = n then β n else srcB β tm l k
  | .a n _ _ :: l, k => if k = n then β n else srcB β tm l k
  | .o s _ _ :: l, k => if k = canon s then tm.getD s undef else srcB β tm l k
  | .t _ _ _ :: l, k => srcB β tm l k

theorem RootR.up {h : Hp} {L I : Set'} {v : Value} {X : List Nat} {l m : Bool} (hl : (!l || m) = true) {t : Ty} : (∀ {a : den t}, RootR h L I v (.box l t a) X → RootR h L I v (.box m t a) X) ∧ (∀ {xs : List (den t)}, RootR h L I v (.arr l t xs) X → RootR h L I v (.arr m t xs) X) := by
  have : l = true → m = true := by intro e; subst e; simpa using hl
  exact ⟨fun hr => Rep.wide (Sx.up (fun _ h => h) (fun _ h => h) this) hr, fun hr => Rep.wide (Sx.up (fun _ h => h) (fun _ h => h) this) hr⟩

/-- out of a state: each root of the loop's -/
theorem xroots_ok {σ : St} : ∀ (xs : List LV) {xv : denL (xtys xs)}, Src C I β F σ w tm xs → extract σ xs = some xv → ∀ k R, look (xroots xs xv) k = some R →
    Kept C I w (srcB β tm xs k) R (srcF σ F xs k) ∧ (srcF σ F xs k = [] ∨ ∃ r ∈ takenNames σ xs, (∃ R', look σ.r r = some R') ∧ srcF σ F xs k = F r)
  | [], _, _, _, k, R, h => by simp [xroots, look] at h
  | .t s len τ :: l, xv, hS, he, k, R, h => by
    obtain ⟨a, xv⟩ := xv
    simp only [extract] at he
    cases h1 : toV len τ (find σ.t s) with
    | none => simp [h1] at he
    | some y =>
      cases h2 : extract σ l with
      | none => simp [h1, h2] at he
      | some r =>
        simp [h1, h2] at he
        obtain ⟨rfl, rfl⟩ := he
        simp only [takenNames] at hS ⊢
        exact xroots_ok l ⟨hS.kept, hS.disj, hS.slots⟩ h2 k R h
  | .r n len τ :: l, xv, hS, he, k, R, h => by
    obtain ⟨a, xv⟩ := xv
    simp only [extract] at he
    split at he
    · rename_i len' t b hl
      split at he
      · rename_i y r hlen hc hr
        cases he
        obtain ⟨rfl, hx⟩ := cast?_some hc
        have := eq_of_heq hx
        subst this
        simp only [xroots] at h
        have hin : n ∈ takenNames σ (.r n len t :: l) := by simp [takenNames]
        by_cases e : k = n
        · subst e
          rw [look_cons_same] at h
          obtain rfl := Option.some.inj h
          have hk := hS.kept k hin _ hl
          simp only [srcB, srcF, if_true]
          exact ⟨⟨(RootR.up hlen).1 hk.root, hk.nodup, hk.own⟩, .inr ⟨k, hin, ⟨_, hl⟩, rfl⟩⟩
        · rw [look_cons_ne e] at h
          simp only [srcB, srcF, if_neg e]
          obtain ⟨g1, g2⟩ := xroots_ok l ⟨fun r hr => hS.kept r (by simp [takenNames, hr]), fun r hr r' hr' => hS.disj r (by simp [takenNames, hr]) r' (by simp [takenNames, hr']), hS.slots⟩ hr k R h
          refine ⟨g1, ?_⟩
          rcases g2 with g2 | ⟨r', g3, g4⟩
          · exact .inl g2
          · exact .inr ⟨r', by simp [takenNames, g3], g4⟩
      · simp at he
    · simp at he
  | .a n len τ :: l, xv, hS, he, k, R, h => by
    obtain ⟨a, xv⟩ := xv
    simp only [extract] at he
    split at he
    · rename_i len' t b hl
      split at he
      · rename_i y r hlen hc hr
        cases he
        obtain ⟨h0, hx⟩ := cast?_some hc
        simp only [Ty.sl.injEq, true_and] at h0
        subst h0
        have := eq_of_heq hx
        subst this
        simp only [xroots] at h
        have hin : n ∈ takenNames σ (.a n len t :: l) := by simp [takenNames]
        by_cases e : k = n
        · subst e
          rw [look_cons_same] at h
          obtain rfl := Option.some.inj h
          have hk := hS.kept k hin _ hl
          simp only [srcB, srcF, if_true]
          exact ⟨⟨(RootR.up hlen).2 hk.root, hk.nodup, hk.own⟩, .inr ⟨k, hin, ⟨_, hl⟩, rfl⟩⟩
        · rw [look_cons_ne e] at h
          simp only [srcB, srcF, if_neg e]
          obtain ⟨g1, g2⟩ := xroots_ok l ⟨fun r hr => hS.kept r (by simp [takenNames, hr]), fun r hr r' hr' => hS.disj r (by simp [takenNames, hr]) r' (by simp [takenNames, hr']), hS.slots⟩ hr k R h
          refine ⟨g1, ?_⟩
          rcases g2 with g2 | ⟨r', g3, g4⟩
          · exact .inl g2
          · exact .inr ⟨r', by simp [takenNames, g3], g4⟩
      · simp at he
    · simp at he
  | .o s len τ :: l, xv, hS, he, k, R, h => by
    obtain ⟨a, xv⟩ := xv
    simp only [extract] at he
    split at he
    · rename_i n hf
      split at he
      · rename_i len' t b hl
        split at he
        · rename_i y r hlen hc hr
          cases he
          obtain ⟨h0, hx⟩ := cast?_some hc
          simp only [Ty.sl.injEq, true_and] at h0
          subst h0
          have := eq_of_heq hx
          subst this
          simp only [xroots] at h
          have hin : n ∈ takenNames σ (.o s len t :: l) := by simp [takenNames, hf]
          have hv : tm.getD s undef = β n := by
            have := hS.slots s
            rw [hf] at this
            obtain ⟨_, _, _, _, h⟩ := this
            exact h
          by_cases e : k = canon s
          · subst e
            rw [look_cons_same] at h
            obtain rfl := Option.some.inj h
            have hk := hS.kept n hin _ hl
            simp only [srcB, srcF, if_true, hf, hv]
            exact ⟨⟨(RootR.up hlen).2 hk.root, hk.nodup, hk.own⟩, .inr ⟨n, hin, ⟨_, hl⟩, rfl⟩⟩
          · rw [look_cons_ne e] at h
            simp only [srcB, srcF, if_neg e]
            obtain ⟨g1, g2⟩ := xroots_ok l ⟨fun r hr => hS.kept r (by simp [takenNames, hf, hr]), fun r hr r' hr' => hS.disj r (by simp [takenNames, hf, hr]) r' (by simp [takenNames, hf, hr']), hS.slots⟩ hr k R h
            refine ⟨g1, ?_⟩
            rcases g2 with g2 | ⟨r', g3, g4⟩
            · exact .inl g2
            · exact .inr ⟨r', by simp [takenNames, hf, g3], g4⟩
        · simp at he
      · simp at he
    · rename_i hf
      cases h2 : extract σ l with
      | none => simp [h2] at he
      | some r =>
        simp [h2] at he
        obtain ⟨rfl, rfl⟩ := he
        simp only [xroots] at h
        obtain ⟨a0, hv⟩ : ∃ a0, tm.getD s undef = .slice a0 0 0 := by
          have := hS.slots s
          rw [hf] at this
          exact this
        have htk : takenNames σ (.o s len τ :: l) = takenNames σ l := by simp [takenNames, hf]
        rw [htk]
        by_cases e : k = canon s
        · subst e
          rw [look_cons_same] at h
          obtain rfl := Option.some.inj h
          simp only [srcB, srcF, if_true, hf, hv]
          exact ⟨⟨⟨a0, 0, rfl, Nat.le_refl _, .inl ⟨rfl, rfl, rfl, rfl⟩⟩, by simp, by simp⟩, .inl trivial⟩
        · rw [look_cons_ne e] at h
          simp only [srcB, srcF, if_neg e]
          exact xroots_ok l ⟨fun r hr => hS.kept r (by rw [htk]; exact hr), fun r hr r' hr' => hS.disj r (by rw [htk]; exact hr) r' (by rw [htk]; exact hr'), hS.slots⟩ h2 k R h
    · simp at he

theorem xroots_name : ∀ (xs : List LV) {xv : denL (xtys xs)} {k : Nat} {R : Root}, look (xroots xs xv) k = some R → k ∈ xnames xs
  | [], _, k, R, h => by simp [xroots, look] at h
  | .t s len τ :: l, (a, xv), k, R, h => xroots_name l h
  | .r n len τ :: l, (a, xv), k, R, h => by
    simp only [xroots] at h
    by_cases e : k = n
    · subst e; simp [xnames]
    · rw [look_cons_ne e] at h; simp [xnames, xroots_name l h]
  | .a n len τ :: l, (a, xv), k, R, h => by
    simp only [xroots] at h
    by_cases e : k = n
    · subst e; simp [xnames]
    · rw [look_cons_ne e] at h; simp [xnames, xroots_name l h]
  | .o s len τ :: l, (a, xv), k, R, h => by
    simp only [xroots] at h
    by_cases e : k = canon s
    · subst e; simp [xnames]
    · rw [look_cons_ne e] at h; simp [xnames, xroots_name l h]

end
end Go.Proofs.Ytnffdeokhcojfaa.E

namespace Go.Proofs.Ytnffdeokhcojfaa.E
open Go
set_option linter.unusedSimpArgs false
set_option linter.unusedVariables false

section
variable {C : Ctx} {I : Set'} {β : Nat → Value} {F : Nat → List Nat} {w : World} {tm : Array Value}

def srcN (σ : St) : List LV → Nat → Option Nat
  | [], _ => none
  | .r n _ _ :: l, k => if k = n then some n else srcN σ l k
  | .a n _ _ :: l, k => if k = n then some n else srcN σ l k
  | .o s _ _ :: l, k => if k = canon s then (match find σ.t s with | .sf r => some r | _ => none) else srcN σ l k
  | .t _ _ _ :: l, k => srcN σ l k

theorem srcF_eq {σ : St} {k : Nat} : ∀ xs : List LV, srcF σ F xs k = match srcN σ xs k with | some r => F r | none => []
  | [] => rfl
  | .r n _ _ :: l => by
    simp only [srcF, srcN]
    split <;> simp [srcF_eq l]
  | .a n _ _ :: l => by
    simp only [srcF, srcN]
    split <;> simp [srcF_eq l]
  | .o s _ _ :: l => by
    simp only [srcF, srcN]
    split
    · cases find σ.t s <;> rfl
    · exact srcF_eq l
  | .t _ _ _ :: l => srcF_eq l

theorem srcN_mem {σ : St} {k r : Nat} : ∀ {xs : List LV}, srcN σ xs k = some r → r ∈ takenNames σ xs
  | [], h => by simp [srcN] at h
  | .r n _ _ :: l, h => by
    simp only [srcN] at h
    split at h
    · simp at h; subst h; simp [takenNames]
    · simp [takenNames, srcN_mem h]
  | .a n _ _ :: l, h => by
    simp only [srcN] at h
    split at h
    · simp at h; subst h; simp [takenNames]
    · simp [takenNames, srcN_mem h]
  | .o s _ _ :: l, h => by
    simp only [srcN] at h
    split at h
    · split at h
      · rename_i hf; simp at h; subst h; simp [takenNames, hf]
      · cases h
    · have := srcN_mem h
      simp only [takenNames]
      split <;> simp [this]
  | .t _ _ _ :: l, h => srcN_mem (xs := l) h

theorem srcN_inj {σ : St} {k k' r r' : Nat} (hne : k ≠ k') : ∀ {xs : List LV}, (takenNames σ xs).Nodup → srcN σ xs k = some r → srcN σ xs k' = some r' → r ≠ r'
  | [], _, h, _ => by simp [srcN] at h
  | .r n _ _ :: l, hn, h, h' => by
    simp only [takenNames, List.nodup_cons] at hn
    simp only [srcN] at h h'
    split at h <;> split at h'
    · omega
    · simp at h; subst h; rintro rfl; exact hn.1 (srcN_mem h')
    · simp at h'; subst h'; rintro rfl; exact hn.1 (srcN_mem h)
    · exact srcN_inj hne hn.2 h h'
  | .a n _ _ :: l, hn, h, h' => by
    simp only [takenNames, List.nodup_cons] at hn
    simp only [srcN] at h h'
    split at h <;> split at h'
    · omega
    · simp at h; subst h; rintro rfl; exact hn.1 (srcN_mem h')
    · simp at h'; subst h'; rintro rfl; exact hn.1 (srcN_mem h)
    · exact srcN_inj hne hn.2 h h'
  | .o s _ _ :: l, hn, h, h' => by
    simp only [takenNames] at hn
    simp only [srcN] at h h'
    split at h <;> split at h'
    · omega
    · split at h
      · rename_i hf
        simp at h; subst h
        simp only [hf, List.nodup_cons] at hn
        rintro rfl; exact hn.1 (srcN_mem h')
      · cases h
    · split at h'
      · rename_i hf
        simp at h'; subst h'
        simp only [hf, List.nodup_cons] at hn
        rintro rfl; exact hn.1 (srcN_mem h)
      · cases h'
    · have hn2 : (takenNames σ l).Nodup := by
        split at hn
        · exact (List.nodup_cons.1 hn).2
        · exact hn
      exact srcN_inj hne hn2 h h'
  | .t _ _ _ :: l, hn, h, h' => srcN_inj (xs := l) hne hn h h'

def oSlots : List LV → List Nat
  | [] => []
  | .o s _ _ :: l => s :: oSlots l
  | .r _ _ _ :: l => oSlots l
  | .a _ _ _ :: l => oSlots l
  | .t _ _ _ :: l => oSlots l

theorem oSlots_name {s : Nat} : ∀ {xs : List LV}, s ∈ oSlots xs → canon s ∈ xnames xs
  | .o n _ _ :: l, h => by
    simp only [oSlots, List.mem_cons] at h
    rcases h with rfl | h
    · simp [xnames]
    · simp [xnames, oSlots_name h]
  | .r n _ _ :: l, h => by simp [xnames, oSlots_name (xs := l) h]
  | .a n _ _ :: l, h => by simp [xnames, oSlots_name (xs := l) h]
  | .t _ _ _ :: l, h => oSlots_name (xs := l) h

theorem box_name {n : Nat} : ∀ {xs : List LV}, n ∈ boxNames xs → n ∈ xnames xs
  | .r k _ _ :: l, h => by
    simp only [boxNames, List.mem_cons] at h
    rcases h with rfl | h
    · simp [xnames]
    · simp [xnames, box_name h]
  | .o n _ _ :: l, h => by simp [xnames, box_name (xs := l) h]
  | .a n _ _ :: l, h => by simp [xnames, box_name (xs := l) h]
  | .t _ _ _ :: l, h => box_name (xs := l) h

theorem arr_name {n : Nat} : ∀ {xs : List LV}, n ∈ arrNames xs → n ∈ xnames xs
  | .a k _ _ :: l, h => by
    simp only [arrNames, List.mem_cons] at h
    rcases h with rfl | h
    · simp [xnames]
    · simp [xnames, arr_name h]
  | .o n _ _ :: l, h => by simp [xnames, arr_name (xs := l) h]
  | .r n _ _ :: l, h => by simp [xnames, arr_name (xs := l) h]
  | .t _ _ _ :: l, h => arr_name (xs := l) h

theorem o_look {s : Nat} : ∀ {xs : List LV} {xv : denL (xtys xs)}, (xnames xs).Nodup → s ∈ oSlots xs → (∃ l t ys, look (xroots xs xv) (canon s) = some (.arr l t ys)) ∧ srcB β tm xs (canon s) = tm.getD s undef
  | .o n len τ :: l, (a, xv), hn, h => by
    simp only [xnames, List.nodup_cons] at hn
    simp only [xroots, srcB]
    by_cases e : canon s = canon n
    · have : s = n := by simp only [canon] at e; omega
      subst this
      rw [look_cons_same]
      exact ⟨⟨_, _, _, rfl⟩, by simp⟩
    · rw [look_cons_ne e]
      simp only [oSlots, List.mem_cons] at h
      rcases h with rfl | h
      · exact (e rfl).elim
      · simp only [if_neg e]; exact o_look hn.2 h
  | .r n len τ :: l, (a, xv), hn, h => by
    simp only [xnames, List.nodup_cons] at hn
    have e : canon s ≠ n := by rintro rfl; exact hn.1 (oSlots_name (xs := l) h)
    simp only [xroots, srcB, if_neg e]
    rw [look_cons_ne e]
    exact o_look (xs := l) hn.2 h
  | .a n len τ :: l, (a, xv), hn, h => by
    simp only [xnames, List.nodup_cons] at hn
    have e : canon s ≠ n := by rintro rfl; exact hn.1 (oSlots_name (xs := l) h)
    simp only [xroots, srcB, if_neg e]
    rw [look_cons_ne e]
    exact o_look (xs := l) hn.2 h
  | .t _ _ _ :: l, (a, xv), hn, h => o_look (xs := l) (xv := xv) hn h

theorem box_look {n : Nat} : ∀ {xs : List LV} {xv : denL (xtys xs)}, (xnames xs).Nodup → n ∈ boxNames xs → (∃ l t a, look (xroots xs xv) n = some (.box l t a)) ∧ srcB β tm xs n = β n
  | .r k len τ :: l, (a, xv), hn, h => by
    simp only [xnames, List.nodup_cons] at hn
    simp only [xroots, srcB]
    by_cases e : n = k
    · subst e
      rw [look_cons_same]
      exact ⟨⟨_, _, _, rfl⟩, by simp⟩
    · rw [look_cons_ne e]
      simp only [boxNames, List.mem_cons] at h
      rcases h with rfl | h
      · exact (e rfl).elim
      · simp only [if_neg e]; exact box_look hn.2 h
  | .o k len τ :: l, (a, xv), hn, h => by
    simp only [xnames, List.nodup_cons] at hn
    have e : n ≠ canon k := by rintro rfl; exact hn.1 (box_name (xs := l) h)
    simp only [xroots, srcB, if_neg e]
    rw [look_cons_ne e]
    exact box_look (xs := l) hn.2 h
  | .a k len τ :: l, (a, xv), hn, h => by
    simp only [xnames, List.nodup_cons] at hn
    have e : n ≠ k := by rintro rfl; exact hn.1 (box_name (xs := l) h)
    simp only [xroots, srcB, if_neg e]
    rw [look_cons_ne e]
    exact box_look (xs := l) hn.2 h
  | .t _ _ _ :: l, (a, xv), hn, h => box_look (xs := l) (xv := xv) hn h

theorem arr_look {n : Nat} : ∀ {xs : List LV} {xv : denL (xtys xs)}, (xnames xs).Nodup → n ∈ arrNames xs → (∃ l t a, look (xroots xs xv) n = some (.arr l t a)) ∧ srcB β tm xs n = β n
  | .a k len τ :: l, (a, xv), hn, h => by
    simp only [xnames, List.nodup_cons] at hn
    simp only [xroots, srcB]
    by_cases e : n = k
    · subst e
      rw [look_cons_same]
      exact ⟨⟨_, _, _, rfl⟩, by simp⟩
    · rw [look_cons_ne e]
      simp only [arrNames, List.mem_cons] at h
      rcases h with rfl | h
      · exact (e rfl).elim
      · simp only [if_neg e]; exact arr_look hn.2 h
  | .o k len τ :: l, (a, xv), hn, h => by
    simp only [xnames, List.nodup_cons] at hn
    have e : n ≠ canon k := by rintro rfl; exact hn.1 (arr_name (xs := l) h)
    simp only [xroots, srcB, if_neg e]
    rw [look_cons_ne e]
    exact arr_look (xs := l) hn.2 h
  | .r k len τ :: l, (a, xv), hn, h => by
    simp only [xnames, List.nodup_cons] at hn
    have e : n ≠ k := by rintro rfl; exact hn.1 (arr_name (xs := l) h)
    simp only [xroots, srcB, if_neg e]
    rw [look_cons_ne e]
    exact arr_look (xs := l) hn.2 h
  | .t _ _ _ :: l, (a, xv), hn, h => arr_look (xs := l) (xv := xv) hn h

theorem find_mem : ∀ {l : List (Nat × SV)} {i : Nat}, find l i = .x ∨ (i, find l i) ∈ l
  | [], _ => .inl rfl
  | (k, v) :: l, i => by
    simp only [find]
    cases hb : Nat.beq k i with
    | true => obtain rfl := Nat.eq_of_beq_eq_true hb; right; simp
    | false =>
      rcases find_mem (l := l) (i := i) with h | h
      · exact .inl h
      · right; simp [h]

theorem appT_mem {p : Nat × SV} : ∀ {a b : List (Nat × SV)}, p ∈ appT a b ↔ p ∈ a ∨ p ∈ b
  | [], b => by simp [appT]
  | x :: a, b => by simp [appT, appT_mem (a := a), or_assoc]

theorem xslots_ok {σ : St} {β' : Nat → Value} {ρ : List (Nat × Root)} : ∀ (xs : List LV) {xv : denL (xtys xs)}, (∀ i, SVR (hpOf w) C.L I β σ.r (find σ.t i) (tm.getD i undef)) → extract σ xs = some xv →
    (∀ s ∈ oSlots xs, (∃ l t ys, look ρ (canon s) = some (.arr l t ys)) ∧ β' (canon s) = tm.getD s undef) → ∀ i sv, (i, sv) ∈ xslots xs xv → SVR (hpOf w) C.L I β' ρ sv (tm.getD i undef)
  | [], _, _, _, _, i, sv, h => by simp [xslots] at h
  | .t s len τ :: l, (a, xv), hs, he, hO, i, sv, h => by
    simp only [extract] at he
    cases h1 : toV len τ (find σ.t s) with
    | none => simp [h1] at he
    | some y =>
      cases h2 : extract σ l with
      | none => simp [h1, h2] at he
      | some r =>
        simp [h1, h2] at he
        obtain ⟨rfl, rfl⟩ := he
        simp only [xslots, List.mem_cons] at h
        rcases h with h | h
        · simp only [Prod.mk.injEq] at h
          obtain ⟨rfl, rfl⟩ := h
          obtain ⟨cs, e1, e2⟩ := toV_ok h1 (hs i)
          exact ⟨cs, e1, e2⟩
        · exact xslots_ok l hs h2 hO i sv h
  | .r n len τ :: l, (a, xv), hs, he, hO, i, sv, h => by
    simp only [extract] at he
    split at he
    · split at he
      · rename_i hr
        cases he
        exact xslots_ok l hs hr hO i sv h
      · simp at he
    · simp at he
  | .a n len τ :: l, (a, xv), hs, he, hO, i, sv, h => by
    simp only [extract] at he
    split at he
    · split at he
      · rename_i hr
        cases he
        exact xslots_ok l hs hr hO i sv h
      · simp at he
    · simp at he
  | .o s len τ :: l, (a, xv), hs, he, hO, i, sv, h => by
    have hr : extract σ l = some xv := by
      simp only [extract] at he
      split at he
      · split at he
        · split at he
          · rename_i hr; cases he; exact hr
          · simp at he
        · simp at he
      · cases h2 : extract σ l with
        | none => simp [h2] at he
        | some r => simp only [h2] at he; cases he; rfl
      · simp at he
    simp only [xslots, List.mem_cons] at h
    rcases h with h | h
    · simp only [Prod.mk.injEq] at h
      obtain ⟨rfl, rfl⟩ := h
      obtain ⟨⟨l', t, ys, h1⟩, h2⟩ := hO i (by simp [oSlots])
      exact ⟨l', t, ys, h1, h2.symm⟩
    · exact xslots_ok l hs hr (fun s hs => hO s (by simp [oSlots, hs])) i sv h

/-- a loop's constants -/
def KF (C : Ctx) (tm : Array Value) : (ks : List KV) → denL (ktys ks) → Prop
  | [], _ => True
  | .v s len τ :: l, (a, r) => SVR C.h C.L C.I (fun _ => undef) [] (.v len τ a) (tm.getD s undef) ∧ KF C tm l r
  | .q s len τ :: l, (a, r) => SVR C.h C.L C.I (fun _ => undef) [] (.q len τ a) (tm.getD s undef) ∧ KF C tm l r
  | .p _ _ :: l, (_, r) => KF C tm l r
  | .s _ _ :: l, (_, r) => KF C tm l r

theorem allIn_mem : ∀ {l m : List Nat}, allIn l m = true → ∀ n ∈ l, n ∈ m
  | [], _, _, n, h => by simp at h
  | k :: l, m, h, n, hn => by
    simp only [allIn, Bool.and_eq_true] at h
    rcases List.mem_cons.1 hn with rfl | hn
    · exact natMem_iff.1 h.1
    · exact allIn_mem h.2 n hn

theorem kslots_ok {σ : St} {β' : Nat → Value} {ρ : List (Nat × Root)} (hIh : ∀ b, C.I b → I b ∧ hpOf w b = C.h b) (hLh : ∀ b, C.L b → hpOf w b = C.h b) : ∀ (ks : List KV) {kv : denL (ktys ks)}, (∀ i, SVR (hpOf w) C.L I β σ.r (find σ.t i) (tm.getD i undef)) → pinOk σ ks = true → KF C tm ks kv →
    (∀ n ∈ pinsB ks, (∃ l t a, look ρ n = some (.box l t a)) ∧ β' n = β n) → (∀ n ∈ pinsA ks, (∃ l t a, look ρ n = some (.arr l t a)) ∧ β' n = β n) → ∀ i sv, (i, sv) ∈ kslots ks kv → SVR (hpOf w) C.L I β' ρ sv (tm.getD i undef)
  | [], _, _, _, _, _, _, i, sv, h => by simp [kslots] at h
  | .v s len τ :: l, (a, kv), hs, hp, hK, hB, hA, i, sv, h => by
    simp only [kslots, List.mem_cons] at h
    rcases h with h | h
    · simp only [Prod.mk.injEq] at h
      obtain ⟨rfl, rfl⟩ := h
      exact SVR.mono (fun b hb => hIh b hb) hLh (fun r R hu _ => by simp [SV.uses, SV.uses0] at hu) hK.1
    · exact kslots_ok hIh hLh l hs hp hK.2 hB hA i sv h
  | .q s len τ :: l, (a, kv), hs, hp, hK, hB, hA, i, sv, h => by
    simp only [kslots, List.mem_cons] at h
    rcases h with h | h
    · simp only [Prod.mk.injEq] at h
      obtain ⟨rfl, rfl⟩ := h
      exact SVR.mono (fun b hb => hIh b hb) hLh (fun r R hu _ => by simp [SV.uses, SV.uses0] at hu) hK.1
    · exact kslots_ok hIh hLh l hs hp hK.2 hB hA i sv h
  | .p s n :: l, (a, kv), hs, hp, hK, hB, hA, i, sv, h => by
    simp only [pinOk, Bool.and_eq_true] at hp
    simp only [kslots, List.mem_cons] at h
    rcases h with h | h
    · simp only [Prod.mk.injEq] at h
      obtain ⟨rfl, rfl⟩ := h
      have h1 := hs i
      have hp1 := hp.1
      split at hp1
      · rename_i r hf
        obtain rfl := Nat.eq_of_beq_eq_true hp1
        rw [hf] at h1
        obtain ⟨R, o, u, g1, g2, g3, g4⟩ := h1
        have ho : o = 0 := by cases R <;> simp [Root.off, selOff] at g2 <;> omega
        subst ho
        obtain ⟨⟨l', t, b, k1⟩, k2⟩ := hB r (by simp [pinsB])
        exact ⟨.box l' t b, 0, t, k1, rfl, trivial, by rw [k2]; exact g4⟩
      · cases hp1
    · exact kslots_ok hIh hLh l hs hp.2 hK (fun n hn => hB n (by simp [pinsB, hn])) hA i sv h
  | .s s n :: l, (a, kv), hs, hp, hK, hB, hA, i, sv, h => by
    simp only [pinOk, Bool.and_eq_true] at hp
    simp only [kslots, List.mem_cons] at h
    rcases h with h | h
    · simp only [Prod.mk.injEq] at h
      obtain ⟨rfl, rfl⟩ := h
      have h1 := hs i
      have hp1 := hp.1
      split at hp1
      · rename_i r hf
        obtain rfl := Nat.eq_of_beq_eq_true hp1
        rw [hf] at h1
        obtain ⟨l1, t1, y1, g1, g2⟩ := h1
        obtain ⟨⟨l', t, b, k1⟩, k2⟩ := hA r (by simp [pinsA])
        exact ⟨l', t, b, k1, by rw [k2]; exact g2⟩
      · cases hp1
    · exact kslots_ok hIh hLh l hs hp.2 hK hB (fun n hn => hA n (by simp [pinsA, hn])) i sv h

/-- what holds of the memory at large -/
structure Room (C : Ctx) (I : Set') (w : World) : Prop where
  shared : ∀ b, I b → b < w.heap.size ∧ (C.I b ∨ C.X b ∨ C.n ≤ b)
  sub : ∀ b, C.I b → I b
  frame : ∀ b, b < C.n → ¬ C.X b → hpOf w b = C.h b
  grow : C.n ≤ w.heap.size
  rest : restOf w = C.z

theorem Inv.room {σ : St} (hi : Inv C I β F σ w tm) : Room C I w := ⟨hi.shared, hi.sub, hi.frame, hi.grow, hi.rest⟩

theorem taken_there {σ : St} : ∀ {xs : List LV} {xv : denL (xtys xs)}, extract σ xs = some xv → ∀ r ∈ takenNames σ xs, ∃ R, look σ.r r = some R
  | [], _, _, r, h => by simp [takenNames] at h
  | .t s len τ :: l, (a, xv), he, r, h => by
    simp only [extract] at he
    cases h1 : toV len τ (find σ.t s) with
    | none => simp [h1] at he
    | some y =>
      cases h2 : extract σ l with
      | none => simp [h1, h2] at he
      | some r' => exact taken_there (xs := l) h2 r h
  | .r n len τ :: l, (a, xv), he, r, h => by
    simp only [extract] at he
    split at he
    · rename_i hl
      split at he
      · rename_i hr
        simp only [takenNames, List.mem_cons] at h
        rcases h with rfl | h
        · exact ⟨_, hl⟩
        · exact taken_there (xs := l) hr r h
      · simp at he
    · simp at he
  | .a n len τ :: l, (a, xv), he, r, h => by
    simp only [extract] at he
    split at he
    · rename_i hl
      split at he
      · rename_i hr
        simp only [takenNames, List.mem_cons] at h
        rcases h with rfl | h
        · exact ⟨_, hl⟩
        · exact taken_there (xs := l) hr r h
      · simp at he
    · simp at he
  | .o s len τ :: l, (a, xv), he, r, h => by
    simp only [extract] at he
    split at he
    · rename_i n hf
      split at he
      · rename_i hl
        split at he
        · rename_i hr
          simp only [takenNames, hf, List.mem_cons] at h
          rcases h with rfl | h
          · exact ⟨_, hl⟩
          · exact taken_there (xs := l) hr r h
        · simp at he
      · simp at he
    · rename_i hf
      simp only [takenNames, hf] at h
      cases h2 : extract σ l with
      | none => simp [h2] at he
      | some r' => exact taken_there (xs := l) h2 r h
    · simp at he

/-- the head of a round -/
theorem fill_inv {σ : St} {c : Cut} {n : Nat} {kv : denL (ktys c.ks)} {xv : denL (xtys c.xs)} (hm : Room C I w) (hS : Src C I β F σ w tm c.xs) (hx : extract σ c.xs = some xv) (hnx : (xnames c.xs).Nodup) (htk : (takenNames σ c.xs).Nodup)
    (hp : pinOk σ c.ks = true) (hK : KF C tm c.ks kv) (hB : allIn (pinsB c.ks) (boxNames c.xs) = true) (hA : allIn (pinsA c.ks) (arrNames c.xs) = true) (hsz : tm.size = n) :
    Inv C I (srcB β tm c.xs) (srcF σ F c.xs) (fill n c.ks kv c.xs xv) w tm := by
  have hroot := xroots_ok c.xs hS hx
  constructor
  case size => exact hsz
  case slots =>
    intro i
    simp only [fill]
    rcases find_mem (l := appT (xslots c.xs xv) (kslots c.ks kv)) (i := i) with h | h
    · rw [h]; exact trivial
    · rcases appT_mem.1 h with h | h
      · exact xslots_ok c.xs hS.slots hx (fun s hs => o_look hnx hs) i _ h
      · exact kslots_ok (fun b hb => ⟨hm.sub b hb, hm.frame b (C.Iok b hb).1 (C.Iok b hb).2⟩) (fun b hb => hm.frame b (C.Lok b hb).1 (C.Lok b hb).2) c.ks hS.slots hp hK
          (fun n hn => box_look hnx (allIn_mem hB n hn)) (fun n hn => arr_look hnx (allIn_mem hA n hn)) i _ h
  case conds => intro k e u v h; simp [fill] at h
  case undefs => intro k e u v h; simp [fill] at h
  case roots => intro r R h; exact (hroot r R h).1.root
  case nodup => intro r R h; exact (hroot r R h).1.nodup
  case disj =>
    intro r r' R R' hne h h' b hb hb'
    rw [srcF_eq] at hb hb'
    have h1 := (hroot r R h).2
    have h2 := (hroot r' R' h').2
    cases e1 : srcN σ c.xs r with
    | none => simp [e1] at hb
    | some k =>
      cases e2 : srcN σ c.xs r' with
      | none => simp [e2] at hb'
      | some k' =>
        simp only [e1] at hb
        simp only [e2] at hb'
        have hkk := srcN_inj hne htk e1 e2
        obtain ⟨R1, g1⟩ := taken_there hx k (srcN_mem e1)
        obtain ⟨R2, g2⟩ := taken_there hx k' (srcN_mem e2)
        exact hS.disj k (srcN_mem e1) k' (srcN_mem e2) R1 R2 hkk g1 g2 b hb hb'
  case own => intro r R h; exact (hroot r R h).1.own
  case shared => exact hm.shared
  case sub => exact hm.sub
  case frame => exact hm.frame
  case grow => exact hm.grow
  case rest => exact hm.rest

end
end Go.Proofs.Ytnffdeokhcojfaa.E

namespace Go.Proofs.Ytnffdeokhcojfaa.E
open Go
set_option linter.unusedSimpArgs false
set_option linter.unusedVariables false

theorem look_appR {k : Nat} : ∀ {a b : List (Nat × Root)}, look (appR a b) k = match look a k with | some R => some R | none => look b k
  | [], b => rfl
  | (n, R) :: a, b => by
    simp only [appR, look]
    cases Nat.beq n k with
    | true => rfl
    | false => exact look_appR

theorem look_delAll {k : Nat} : ∀ {l : List Nat} {r : List (Nat × Root)}, look (delAll l r) k = if k ∈ l then none else look r k
  | [], r => by simp [delAll]
  | n :: l, r => by
    rw [delAll, look_delAll (l := l)]
    by_cases h : k ∈ l
    · simp [h]
    · simp only [h, if_false, List.mem_cons, or_false]
      by_cases e : k = n
      · subst e; simp [look_del_same]
      · simp [e, look_del_ne e]

theorem find_keepT {asg gone : List Nat} {i : Nat} : ∀ {l : List (Nat × SV)}, find (keepT asg gone l) i = .x ∨ (find (keepT asg gone l) i = find l i ∧ natMem i asg = false ∧ usesAny gone (find l i) = false)
  | [] => .inl rfl
  | (k, v) :: l => by
    simp only [keepT]
    cases hb : (natMem k asg || usesAny gone v) with
    | true =>
      simp only [find]
      cases hk : Nat.beq k i with
      | true => exact .inl rfl
      | false => exact find_keepT (l := l)
    | false =>
      simp only [find]
      cases hk : Nat.beq k i with
      | true =>
        obtain rfl := Nat.eq_of_beq_eq_true hk
        simp only [Bool.or_eq_false_iff] at hb
        exact .inr ⟨rfl, hb.1, hb.2⟩
      | false => exact find_keepT (l := l)

theorem usesAny_mem {gone : List Nat} {sv : SV} (h : usesAny gone sv = false) : ∀ r, sv.uses r = true → r ∉ gone := by
  intro r hu hm
  induction gone with
  | nil => simp at hm
  | cons k l ih =>
    simp only [usesAny, Bool.or_eq_false_iff] at h
    rcases List.mem_cons.1 hm with rfl | hm
    · rw [h.1] at hu; cases hu
    · exact ih h.2 hm

section
variable {C C' : Ctx} {I I' : Set'} {β β' : Nat → Value} {F F' : Nat → List Nat} {w w' : World} {tm tm' : Array Value}

/-- the world of a loop within that of its surroundings -/
structure Within (C C' : Ctx) (I : Set') (F : Nat → List Nat) (w : World) (tk : List Nat) : Prop where
  h : C'.h = hpOf w
  n : C'.n = w.heap.size
  I : C'.I = I
  L : ∀ b, C.L b → C'.L b
  X : ∀ b, C'.X b ↔ ∃ r ∈ tk, b ∈ F r
  z : C'.z = restOf w
  P : C'.P = C.P

def pickF {α : Type} (ρ : List (Nat × Root)) (f g : Nat → α) (k : Nat) : α := match look ρ k with | some _ => f k | none => g k

theorem merge {σ : St} {n' : Nat} {tk asg gone : List Nat} {ρx : List (Nat × Root)} {xt : List (Nat × SV)} (hi : Inv C I β F σ w tm) (hW : Within C C' I F w tk) (hpres : ∀ r ∈ tk, ∃ R, look σ.r r = some R) (hm : Room C' I' w')
    (hx : ∀ k R, look ρx k = some R → Kept C' I' w' (β' k) R (F' k) ∧ RootR (hpOf w') C.L I' (β' k) R (F' k))
    (hdj : ∀ k k' R R', k ≠ k' → look ρx k = some R → look ρx k' = some R' → ∀ b ∈ F' k, b ∉ F' k')
    (hxt : ∀ i sv, (i, sv) ∈ xt → SVR (hpOf w') C.L I' β' ρx sv (tm'.getD i undef))
    (hg : ∀ r R, look σ.r r = some R → r ∉ gone → (r ∉ tk ∧ look ρx r = none) ∨ ∃ R', look ρx r = some R' ∧ R.like R' ∧ β' r = β r)
    (htm : ∀ i, natMem i asg = false → tm'.getD i undef = tm.getD i undef) (hsz : tm'.size = n') :
    Inv C I' (pickF ρx β' β) (pickF ρx F' F) { t := appT xt (keepT asg gone σ.t), c := [], r := appR ρx (delAll tk σ.r), n := n' } w' tm' := by
  have hfr : ∀ b, b < w.heap.size → (∀ r ∈ tk, b ∉ F r) → hpOf w' b = hpOf w b := fun b h1 h2 => by
    rw [hm.frame b (by rw [hW.n]; exact h1) (fun hX => by obtain ⟨r, hr, hb⟩ := (hW.X b).1 hX; exact h2 r hr hb), hW.h]
  have hXown : ∀ b, C'.X b → ¬ I b ∧ ¬ C.L b ∧ b < w.heap.size ∧ (C.X b ∨ C.n ≤ b) := fun b hX => by
    obtain ⟨r, hr, hb⟩ := (hW.X b).1 hX
    obtain ⟨R, hR⟩ := hpres r hr
    exact hi.own r R hR b hb
  have hI : ∀ b, I b → I' b ∧ hpOf w' b = hpOf w b := fun b hb => ⟨hm.sub b (by rw [hW.I]; exact hb), hfr b (hi.shared b hb).1 (fun r hr hbr => by
    obtain ⟨R, hR⟩ := hpres r hr
    exact (hi.own r R hR b hbr).1 hb)⟩
  have hL : ∀ b, C.L b → hpOf w' b = hpOf w b := fun b hb => hfr b (Nat.lt_of_lt_of_le (C.Lok b hb).1 hi.grow) (fun r hr hbr => by
    obtain ⟨R, hR⟩ := hpres r hr
    exact (hi.own r R hR b hbr).2.1 hb)
  have hlook : ∀ {k R}, look (appR ρx (delAll tk σ.r)) k = some R → look ρx k = some R ∨ (look ρx k = none ∧ k ∉ tk ∧ look σ.r k = some R) := by
    intro k R h
    rw [look_appR] at h
    cases hq : look ρx k with
    | some R' => rw [hq] at h; exact .inl h
    | none =>
      rw [hq] at h
      simp only [look_delAll] at h
      by_cases hk : k ∈ tk
      · simp [hk] at h
      · simp only [hk, if_false] at h
        exact .inr ⟨rfl, hk, h⟩
  have hlift : ∀ b, ¬ I' b ∧ ¬ C'.L b ∧ b < w'.heap.size ∧ (C'.X b ∨ C'.n ≤ b) → ¬ I' b ∧ ¬ C.L b ∧ b < w'.heap.size ∧ (C.X b ∨ C.n ≤ b) := by
    rintro b ⟨h1, h2, h3, h4⟩
    refine ⟨h1, fun h => h2 (hW.L b h), h3, ?_⟩
    rcases h4 with h4 | h4
    · exact (hXown b h4).2.2.2
    · rw [hW.n] at h4; exact .inr (Nat.le_trans hi.grow h4)
  have hkept : ∀ k R, k ∉ tk → look σ.r k = some R → ∀ b ∈ F k, ¬ I' b ∧ ¬ C'.X b ∧ b < w.heap.size ∧ hpOf w' b = hpOf w b := by
    intro k R hk hl b hb
    have h1 := hi.own k R hl b hb
    have h2 : ∀ r ∈ tk, b ∉ F r := fun r hr hbr => by
      obtain ⟨R', hR'⟩ := hpres r hr
      exact hi.disj k r R R' (by rintro rfl; exact hk hr) hl hR' b hb hbr
    refine ⟨fun hI' => ?_, fun hX => ?_, h1.2.2.1, hfr b h1.2.2.1 h2⟩
    · rcases (hm.shared b hI').2 with h | h | h
      · rw [hW.I] at h; exact h1.1 h
      · obtain ⟨r, hr, hbr⟩ := (hW.X b).1 h; exact h2 r hr hbr
      · rw [hW.n] at h; omega
    · obtain ⟨r, hr, hbr⟩ := (hW.X b).1 hX; exact h2 r hr hbr
  constructor
  case size => exact hsz
  case slots =>
    intro i
    simp only
    rcases find_appT (i := i) (a := xt) (b := keepT asg gone σ.t) with ⟨sv, h1, h2⟩ | h
    · rw [h2]
      refine SVR.mono (fun b hb => ⟨hb, rfl⟩) (fun _ _ => rfl) (fun r R _ hl => ?_) (hxt i sv h1)
      refine ⟨R, by rw [look_appR, hl], Root.like.refl R, by simp [pickF, hl]⟩
    · rw [h]
      rcases find_keepT (asg := asg) (gone := gone) (i := i) (l := σ.t) with h0 | ⟨h1, h2, h3⟩
      · rw [h0]; exact trivial
      · rw [h1, htm i h2]
        refine SVR.mono hI hL (fun r R hu hl => ?_) (hi.slots i)
        rcases hg r R hl (usesAny_mem h3 r hu) with ⟨g1, g2⟩ | ⟨R', g1, g2, g3⟩
        · exact ⟨R, by rw [look_appR, g2]; simp only [look_delAll, g1, if_false]; exact hl, Root.like.refl R, by simp [pickF, g2]⟩
        · exact ⟨R', by rw [look_appR, g1], g2, by simp [pickF, g1, g3]⟩
  case conds => intro k e u v h; simp at h
  case undefs => intro k e u v h; simp at h
  case roots =>
    intro k R h
    rcases hlook h with h | ⟨h1, h2, h3⟩
    · simp only [pickF, h]; exact (hx k R h).2
    · simp only [pickF, h1]
      have hR := hi.roots k R h3
      have hF : ∀ b ∈ F k, hpOf w' b = hpOf w b := fun b hb => (hkept k R h2 h3 b hb).2.2.2
      cases R with
      | box l t a => exact Rep.keep (Sx.mono hI hL l) hF hR
      | arr l t xs => exact Rep.keep (Sx.mono hI hL l) hF hR
  case nodup =>
    intro k R h
    rcases hlook h with h | ⟨h1, h2, h3⟩
    · simp only [pickF, h]; exact (hx k R h).1.nodup
    · simp only [pickF, h1]; exact hi.nodup k R h3
  case disj =>
    intro k k' R R' hne h h' b hb hb'
    rcases hlook h with h | ⟨h1, h2, h3⟩ <;> rcases hlook h' with h' | ⟨h1', h2', h3'⟩
    · simp only [pickF, h] at hb; simp only [pickF, h'] at hb'; exact hdj k k' R R' hne h h' b hb hb'
    · simp only [pickF, h] at hb; simp only [pickF, h1'] at hb'
      rcases ((hx k R h).1.own b hb).2.2.2 with g | g
      · exact (hkept k' R' h2' h3' b hb').2.1 g
      · rw [hW.n] at g; have := (hkept k' R' h2' h3' b hb').2.2.1; omega
    · simp only [pickF, h1] at hb; simp only [pickF, h'] at hb'
      rcases ((hx k' R' h').1.own b hb').2.2.2 with g | g
      · exact (hkept k R h2 h3 b hb).2.1 g
      · rw [hW.n] at g; have := (hkept k R h2 h3 b hb).2.2.1; omega
    · simp only [pickF, h1] at hb; simp only [pickF, h1'] at hb'; exact hi.disj k k' R R' hne h3 h3' b hb hb'
  case own =>
    intro k R h b hb
    rcases hlook h with h | ⟨h1, h2, h3⟩
    · simp only [pickF, h] at hb; exact hlift b ((hx k R h).1.own b hb)
    · simp only [pickF, h1] at hb
      have g := hi.own k R h3 b hb
      have g2 := hkept k R h2 h3 b hb
      exact ⟨g2.1, g.2.1, Nat.lt_of_lt_of_le g.2.2.1 (by rw [← hW.n]; exact hm.grow), g.2.2.2⟩
  case shared =>
    intro b hb
    obtain ⟨h1, h2⟩ := hm.shared b hb
    refine ⟨h1, ?_⟩
    rcases h2 with h2 | h2 | h2
    · rw [hW.I] at h2; exact (hi.shared b h2).2
    · exact .inr (hXown b h2).2.2.2
    · rw [hW.n] at h2; exact .inr (.inr (Nat.le_trans hi.grow h2))
  case sub => intro b hb; exact (hI b (hi.sub b hb)).1
  case frame =>
    intro b hb hX
    rw [hfr b (Nat.lt_of_lt_of_le hb hi.grow) (fun r hr hbr => ?_)]
    · exact hi.frame b hb hX
    · obtain ⟨R, hR⟩ := hpres r hr
      rcases (hi.own r R hR b hbr).2.2.2 with h | h
      · exact hX h
      · omega
  case grow => exact Nat.le_trans hi.grow (by rw [← hW.n]; exact hm.grow)
  case rest => rw [hm.rest, hW.z]; exact hi.rest

end
end Go.Proofs.Ytnffdeokhcojfaa.E

namespace Go.Proofs.Ytnffdeokhcojfaa.E
open Go
set_option linter.unusedSimpArgs false
set_option linter.unusedVariables false

section
variable {C : Ctx} {I : Set'} {β : Nat → Value} {F : Nat → List Nat} {w : World} {tm : Array Value}

theorem roots_there {h : Hp} {L I : Set'} {ρ : List (Nat × Root)} {sv : SV} {v : Value} {r : Nat} (hs : SVR h L I β ρ sv v) (hr : r ∈ rootsOf sv) : ∃ R, look ρ r = some R := by
  cases sv with
  | p k z => simp [rootsOf] at hr; subst hr; obtain ⟨R, _, _, h1, _⟩ := hs; exact ⟨R, h1⟩
  | sf k => simp [rootsOf] at hr; subst hr; obtain ⟨_, _, _, h1, _⟩ := hs; exact ⟨_, h1⟩
  | s k _ _ => simp [rootsOf] at hr; subst hr; obtain ⟨_, _, _, h1, _⟩ := hs; exact ⟨_, h1⟩
  | _ => simp [rootsOf] at hr

theorem klents_there {σ : St} (hs : ∀ i, SVR (hpOf w) C.L I β σ.r (find σ.t i) (tm.getD i undef)) : ∀ {ks : List KV}, ∀ r ∈ klents σ ks, ∃ R, look σ.r r = some R
  | [], r, h => by simp [klents] at h
  | .v s len τ :: l, r, h => by
    simp only [klents, mem_appN] at h
    rcases h with h | h
    · exact roots_there (hs s) h
    · exact klents_there hs (ks := l) r h
  | .q s len τ :: l, r, h => by
    simp only [klents, mem_appN] at h
    rcases h with h | h
    · exact roots_there (hs s) h
    · exact klents_there hs (ks := l) r h
  | .p s n :: l, r, h => klents_there hs (ks := l) r h
  | .s s n :: l, r, h => klents_there hs (ks := l) r h

theorem extractK_pin {σ : St} : ∀ {ks : List KV} {kv : denL (ktys ks)}, extractK σ ks = some kv → pinOk σ ks = true
  | [], _, _ => rfl
  | .v s len τ :: l, kv, h => by
    simp only [extractK] at h
    split at h
    · rename_i h2; exact extractK_pin (ks := l) h2
    · cases h
  | .q s len τ :: l, kv, h => by
    simp only [extractK] at h
    split at h
    · rename_i h2; exact extractK_pin (ks := l) h2
    · cases h
  | .p s n :: l, kv, h => by
    simp only [extractK] at h
    split at h
    · rename_i r hf
      split at h
      · rename_i h1 h2
        simp only [pinOk, hf, h1, extractK_pin (ks := l) h2, Bool.and_self]
      · cases h
    · cases h
  | .s s n :: l, kv, h => by
    simp only [extractK] at h
    split at h
    · rename_i r hf
      split at h
      · rename_i h1 h2
        simp only [pinOk, hf, h1, extractK_pin (ks := l) h2, Bool.and_self]
      · cases h
    · cases h

theorem extractK_kf {C' : Ctx} {σ : St} (hi : Inv C I β F σ w tm) (hh : C'.h = hpOf w) (hI : C'.I = I) (hL : ∀ b, C.L b → C'.L b) : ∀ {ks : List KV} {kv : denL (ktys ks)}, (∀ r ∈ klents σ ks, ∀ b ∈ F r, C'.L b) → extractK σ ks = some kv → KF C' tm ks kv
  | [], _, _, _ => trivial
  | .v s len τ :: l, (a, kv), hl, h => by
    simp only [extractK] at h
    split at h
    · rename_i a' r h1 h2
      cases h
      simp only [klents] at hl
      refine ⟨?_, extractK_kf hi hh hI hL (ks := l) (fun r hr => hl r (mem_appN.2 (.inr hr))) h2⟩
      rw [hh, hI]
      cases len with
      | true =>
        simp only at h1
        obtain ⟨cs, e1, e2⟩ := lent_ok hi (L1 := C'.L) (I2 := I) (fun _ => hi.slots s) h1 hL (fun r hr => hl r (mem_appN.2 (.inl hr))) (fun _ h => h)
        exact ⟨cs, e1, e2⟩
      | false =>
        simp only at h1
        obtain ⟨cs, e1, e2⟩ := toV_ok h1 (hi.slots s)
        exact ⟨cs, e1.wide (Sx.up hL (fun _ h => h) (fun h => h)), e2⟩
    · cases h
  | .q s len τ :: l, (a, kv), hl, h => by
    simp only [extractK] at h
    split at h
    · rename_i a' r h1 h2
      cases h
      simp only [klents] at hl
      refine ⟨?_, extractK_kf hi hh hI hL (ks := l) (fun r hr => hl r (mem_appN.2 (.inr hr))) h2⟩
      rw [hh, hI]
      cases len with
      | true =>
        simp only at h1
        obtain ⟨cs, e1, e2⟩ := lent_ok hi (τ := .ref false τ) (L1 := C'.L) (I2 := I) (fun _ => hi.slots s) h1 hL (fun r hr => hl r (mem_appN.2 (.inl hr))) (fun _ h => h)
        obtain ⟨v0, rfl⟩ : ∃ v0, cs = [v0] := by have := e1.len; simp [Ty.size] at this; exact List.length_eq_one_iff.1 this
        simp only [wrapV, Ty.isAgg, Bool.false_eq_true, if_false, List.headD_cons] at e2
        show Rep _ _ _ _ _ _ _
        rw [e2]; exact e1
      | false =>
        simp only at h1
        split at h1
        · rename_i t b hf
          obtain ⟨rfl, hx⟩ := cast?_some h1
          have := eq_of_heq hx
          subst this
          have := hi.slots s
          rw [hf] at this
          exact Rep.wide (Sx.up hL (fun _ h => h) (fun h => h)) this
        · cases h1
    · cases h
  | .p s n :: l, (a, kv), hl, h => by
    simp only [extractK] at h
    split at h
    · split at h
      · rename_i h2
        cases h
        exact extractK_kf hi hh hI hL (ks := l) hl h2
      · cases h
    · cases h
  | .s s n :: l, (a, kv), hl, h => by
    simp only [extractK] at h
    split at h
    · split at h
      · rename_i h2
        cases h
        exact extractK_kf hi hh hI hL (ks := l) hl h2
      · cases h
    · cases h

/-- into a loop -/
theorem enter {σ : St} {c : Cut} {asg : List Nat} {kv : denL (ktys c.ks)} {xv : denL (xtys c.xs)} (hi : Inv C I β F σ w tm) (hc : cutOk σ asg c = true) (hk : extractK σ c.ks = some kv) (hx : extract σ c.xs = some xv) :
    ∃ C' : Ctx, C'.P = C.P ∧ C'.T = C.T ∧ Within C C' I F w (takenNames σ c.xs) ∧ (klents σ c.ks = [] → ∀ b, C'.L b → C.L b) ∧ KF C' tm c.ks kv ∧ Inv C' I (srcB β tm c.xs) (srcF σ F c.xs) (fill σ.n c.ks kv c.xs xv) w tm := by
  simp only [cutOk, Bool.and_eq_true] at hc
  obtain ⟨⟨⟨⟨⟨⟨⟨c1, c2⟩, c3⟩, c4⟩, c5⟩, c6⟩, c7⟩, c8⟩ := hc
  obtain ⟨d1, d2⟩ := apart_iff c1
  obtain ⟨d3, _⟩ := apart_iff c2
  have hpres := taken_there hx
  have hlp : ∀ r ∈ klents σ c.ks, ∃ R, look σ.r r = some R := klents_there hi.slots
  have hXown : ∀ b, (∃ r ∈ takenNames σ c.xs, b ∈ F r) → ¬ I b ∧ ¬ C.L b ∧ b < w.heap.size ∧ (C.X b ∨ C.n ≤ b) := by
    rintro b ⟨r, hr, hb⟩
    obtain ⟨R, hR⟩ := hpres r hr
    exact hi.own r R hR b hb
  have hsep : ∀ r ∈ takenNames σ c.xs, ∀ b ∈ F r, ∀ r' ∈ klents σ c.ks, b ∉ F r' := by
    intro r hr b hb r' hr'
    obtain ⟨R, hR⟩ := hpres r hr
    obtain ⟨R', hR'⟩ := hlp r' hr'
    exact hi.disj r r' R R' (by rintro rfl; exact d2 r hr hr') hR hR' b hb
  let C' : Ctx := { P := C.P, T := C.T, h := hpOf w, n := w.heap.size, L := fun b => C.L b ∨ ∃ r ∈ klents σ c.ks, b ∈ F r, I := I, X := fun b => ∃ r ∈ takenNames σ c.xs, b ∈ F r, z := restOf w
                    Iok := fun b hb => ⟨(hi.shared b hb).1, fun hX => (hXown b hX).1 hb⟩
                    Lok := fun b hb => by
                      rcases hb with hb | ⟨r, hr, hb⟩
                      · exact ⟨Nat.lt_of_lt_of_le (C.Lok b hb).1 hi.grow, fun hX => (hXown b hX).2.1 hb⟩
                      · obtain ⟨R, hR⟩ := hlp r hr
                        exact ⟨(hi.own r R hR b hb).2.2.1, fun ⟨k, hk, hb'⟩ => hsep k hk b hb' r hr hb⟩
                    ok := C.ok }
  have hW : Within C C' I F w (takenNames σ c.xs) := ⟨rfl, rfl, rfl, fun b hb => .inl hb, fun b => Iff.rfl, rfl, rfl⟩
  have hLL : ∀ b, C.L b → C'.L b := fun b hb => Or.inl hb
  have hKF : KF C' tm c.ks kv := extractK_kf (C' := C') hi rfl rfl hLL (fun r hr b hb => Or.inr ⟨r, hr, hb⟩) hk
  refine ⟨C', rfl, rfl, hW, fun he b hb => ?_, hKF, ?_⟩
  · rcases hb with hb | ⟨r, hr, _⟩
    · exact hb
    · rw [he] at hr; simp at hr
  · refine fill_inv (σ := σ) (F := F) ⟨fun b hb => ⟨(hi.shared b hb).1, .inl hb⟩, fun _ h => h, fun b _ _ => rfl, Nat.le_refl _, rfl⟩ ?_ hx d3 d1 (extractK_pin hk) hKF c6 c7 hi.size
    refine ⟨fun r hr R hl => ?_, fun r hr r' hr' R R' hne h h' => hi.disj r r' R R' hne h h', fun i => SVR.wide hLL (fun _ h => h) (hi.slots i)⟩
    have hR := hi.roots r R hl
    refine ⟨?_, hi.nodup r R hl, fun b hb => ?_⟩
    · cases R with
      | box l t a => exact Rep.wide (Sx.up hLL (fun _ h => h) (fun h => h)) hR
      | arr l t a => exact Rep.wide (Sx.up hLL (fun _ h => h) (fun h => h)) hR
    · have h1 := hi.own r R hl b hb
      refine ⟨h1.1, fun hL => ?_, h1.2.2.1, .inl ⟨r, hr, hb⟩⟩
      rcases hL with hL | ⟨k, hk, hb'⟩
      · exact h1.2.1 hL
      · exact hsep r hr b hb k hk hb'

end
end Go.Proofs.Ytnffdeokhcojfaa.E

namespace Go.Proofs.Ytnffdeokhcojfaa.E
open Go
set_option linter.unusedSimpArgs false
set_option linter.unusedVariables false

theorem find_of_nodup {i : Nat} {sv : SV} : ∀ {l : List (Nat × SV)}, (l.map (·.1)).Nodup → (i, sv) ∈ l → find l i = sv
  | (k, v) :: l, hn, h => by
    simp only [List.map_cons, List.nodup_cons] at hn
    simp only [find]
    rcases List.mem_cons.1 h with h | h
    · simp only [Prod.mk.injEq] at h
      obtain ⟨rfl, rfl⟩ := h
      simp
    · rw [nbeq (fun e => hn.1 (by rw [e]; exact List.mem_map.2 ⟨_, h, rfl⟩))]
      exact find_of_nodup hn.2 h

theorem appT_map : ∀ {a b : List (Nat × SV)}, (appT a b).map (·.1) = a.map (·.1) ++ b.map (·.1)
  | [], b => rfl
  | p :: a, b => by simp [appT, appT_map (a := a)]

theorem xslots_keys : ∀ (xs : List LV) (xv : denL (xtys xs)), (xslots xs xv).map (·.1) = slotsOf xs
  | [], _ => rfl
  | .t _ _ _ :: l, (_, r) => by simp [xslots, slotsOf, xslots_keys l r]
  | .o _ _ _ :: l, (_, r) => by simp [xslots, slotsOf, xslots_keys l r]
  | .r _ _ _ :: l, (_, r) => xslots_keys l r
  | .a _ _ _ :: l, (_, r) => xslots_keys l r

theorem kslots_keys : ∀ (ks : List KV) (kv : denL (ktys ks)), (kslots ks kv).map (·.1) = kslotsOf ks
  | [], _ => rfl
  | .v _ _ _ :: l, (_, r) => by simp [kslots, kslotsOf, kslots_keys l r]
  | .q _ _ _ :: l, (_, r) => by simp [kslots, kslotsOf, kslots_keys l r]
  | .p _ _ :: l, (_, r) => by simp [kslots, kslotsOf, kslots_keys l r]
  | .s _ _ :: l, (_, r) => by simp [kslots, kslotsOf, kslots_keys l r]

theorem mem_without {n : Nat} : ∀ {l m : List Nat}, n ∈ l → n ∉ without l m → n ∈ m
  | [], _, h, _ => by simp at h
  | k :: l, m, h, hn => by
    simp only [without] at hn
    cases hb : natMem k m with
    | true =>
      rw [hb] at hn
      rcases List.mem_cons.1 h with rfl | h
      · exact natMem_iff.1 hb
      · exact mem_without h hn
    | false =>
      rw [hb] at hn
      simp only [List.mem_cons, not_or] at hn
      rcases List.mem_cons.1 h with rfl | h
      · exact (hn.1 rfl).elim
      · exact mem_without h hn.2

theorem pinB_mem {n : Nat} : ∀ {ks : List KV} (kv : denL (ktys ks)), n ∈ pinsB ks → ∃ s ∈ kslotsOf ks, (s, SV.p n []) ∈ kslots ks kv ∧ ∀ σ, pinOk σ ks = true → find σ.t s = .p n []
  | .p s k :: l, (_, r), h => by
    simp only [pinsB, List.mem_cons] at h
    rcases h with rfl | h
    · refine ⟨s, by simp [kslotsOf], by simp [kslots], fun σ hp => ?_⟩
      simp only [pinOk, Bool.and_eq_true] at hp
      have hp := hp.1
      split at hp
      · rename_i r hf; rw [hf, Nat.eq_of_beq_eq_true hp]
      · cases hp
    · obtain ⟨s', h1, h2, h3⟩ := pinB_mem r h
      exact ⟨s', by simp [kslotsOf, h1], by simp [kslots, h2], fun σ hp => h3 σ (by simp only [pinOk, Bool.and_eq_true] at hp; exact hp.2)⟩
  | .s _ _ :: l, (_, r), h => by
    obtain ⟨s', h1, h2, h3⟩ := pinB_mem (ks := l) r h
    exact ⟨s', by simp [kslotsOf, h1], by simp [kslots, h2], fun σ hp => h3 σ (by simp only [pinOk, Bool.and_eq_true] at hp; exact hp.2)⟩
  | .v _ _ _ :: l, (_, r), h => by
    obtain ⟨s', h1, h2, h3⟩ := pinB_mem (ks := l) r h
    exact ⟨s', by simp [kslotsOf, h1], by simp [kslots, h2], fun σ hp => h3 σ hp⟩
  | .q _ _ _ :: l, (_, r), h => by
    obtain ⟨s', h1, h2, h3⟩ := pinB_mem (ks := l) r h
    exact ⟨s', by simp [kslotsOf, h1], by simp [kslots, h2], fun σ hp => h3 σ hp⟩

theorem pinA_mem {n : Nat} : ∀ {ks : List KV} (kv : denL (ktys ks)), n ∈ pinsA ks → ∃ s ∈ kslotsOf ks, (s, SV.sf n) ∈ kslots ks kv ∧ ∀ σ, pinOk σ ks = true → find σ.t s = .sf n
  | .s s k :: l, (_, r), h => by
    simp only [pinsA, List.mem_cons] at h
    rcases h with rfl | h
    · refine ⟨s, by simp [kslotsOf], by simp [kslots], fun σ hp => ?_⟩
      simp only [pinOk, Bool.and_eq_true] at hp
      have hp := hp.1
      split at hp
      · rename_i r hf; rw [hf, Nat.eq_of_beq_eq_true hp]
      · cases hp
    · obtain ⟨s', h1, h2, h3⟩ := pinA_mem r h
      exact ⟨s', by simp [kslotsOf, h1], by simp [kslots, h2], fun σ hp => h3 σ (by simp only [pinOk, Bool.and_eq_true] at hp; exact hp.2)⟩
  | .p _ _ :: l, (_, r), h => by
    obtain ⟨s', h1, h2, h3⟩ := pinA_mem (ks := l) r h
    exact ⟨s', by simp [kslotsOf, h1], by simp [kslots, h2], fun σ hp => h3 σ (by simp only [pinOk, Bool.and_eq_true] at hp; exact hp.2)⟩
  | .v _ _ _ :: l, (_, r), h => by
    obtain ⟨s', h1, h2, h3⟩ := pinA_mem (ks := l) r h
    exact ⟨s', by simp [kslotsOf, h1], by simp [kslots, h2], fun σ hp => h3 σ hp⟩
  | .q _ _ _ :: l, (_, r), h => by
    obtain ⟨s', h1, h2, h3⟩ := pinA_mem (ks := l) r h
    exact ⟨s', by simp [kslotsOf, h1], by simp [kslots, h2], fun σ hp => h3 σ hp⟩

/-- a box of the loop's is of the type it was -/
theorem box_like {σ : St} {n : Nat} : ∀ {xs : List LV} {xv xv' : denL (xtys xs)}, (xnames xs).Nodup → n ∈ boxNames xs → extract σ xs = some xv → ∃ l t a, look σ.r n = some (.box l t a) ∧ ∃ l' a', look (xroots xs xv') n = some (.box l' t a') ∧ ∀ b : denL (btys xs), ∃ l'' a'', look (broots xs b) n = some (.box l'' t a'')
  | .r k len τ :: l, (a, xv), (a2, xv'), hn, h, he => by
    simp only [xnames, List.nodup_cons] at hn
    simp only [extract] at he
    split at he
    · rename_i len' t b hl
      split at he
      · rename_i y r hlen hc hr
        cases he
        obtain ⟨rfl, hx⟩ := cast?_some hc
        by_cases e : n = k
        · subst e
          exact ⟨_, _, _, hl, _, _, look_cons_same, fun b => ⟨_, _, look_cons_same⟩⟩
        · simp only [boxNames, List.mem_cons] at h
          rcases h with rfl | h
          · exact (e rfl).elim
          · obtain ⟨l1, t1, a1, g1, l2, a3, g2, g3⟩ := box_like (xv' := xv') hn.2 h hr
            exact ⟨l1, t1, a1, g1, l2, a3, by simp only [xroots]; rw [look_cons_ne e]; exact g2, fun b => by obtain ⟨b1, b2⟩ := b; simp only [broots]; rw [look_cons_ne e]; exact g3 b2⟩
      · simp at he
    · simp at he
  | .a k len τ :: l, (a, xv), (a2, xv'), hn, h, he => by
    simp only [xnames, List.nodup_cons] at hn
    have e : n ≠ k := by rintro rfl; exact hn.1 (box_name (xs := l) h)
    simp only [extract] at he
    split at he
    · split at he
      · rename_i hr
        cases he
        obtain ⟨l1, t1, a1, g1, l2, a3, g2, g3⟩ := box_like (xs := l) (xv' := xv') hn.2 h hr
        exact ⟨l1, t1, a1, g1, l2, a3, by simp only [xroots]; rw [look_cons_ne e]; exact g2, g3⟩
      · simp at he
    · simp at he
  | .o k len τ :: l, (a, xv), (a2, xv'), hn, h, he => by
    simp only [xnames, List.nodup_cons] at hn
    have e : n ≠ canon k := by rintro rfl; exact hn.1 (box_name (xs := l) h)
    have hr : extract σ l = some xv := by
      simp only [extract] at he
      split at he
      · split at he
        · split at he
          · rename_i hr; cases he; exact hr
          · simp at he
        · simp at he
      · cases h2 : extract σ l with
        | none => simp [h2] at he
        | some r => simp only [h2] at he; cases he; rfl
      · simp at he
    obtain ⟨l1, t1, a1, g1, l2, a3, g2, g3⟩ := box_like (xs := l) (xv' := xv') hn.2 h hr
    exact ⟨l1, t1, a1, g1, l2, a3, by simp only [xroots]; rw [look_cons_ne e]; exact g2, g3⟩
  | .t s len τ :: l, (a, xv), (a2, xv'), hn, h, he => by
    simp only [extract] at he
    cases h1 : toV len τ (find σ.t s) with
    | none => simp [h1] at he
    | some y =>
      cases h2 : extract σ l with
      | none => simp [h1, h2] at he
      | some r =>
        simp [h1, h2] at he
        obtain ⟨rfl, rfl⟩ := he
        exact box_like (xs := l) (xv' := xv') hn h h2

theorem arr_like {σ : St} {n : Nat} : ∀ {xs : List LV} {xv xv' : denL (xtys xs)}, (xnames xs).Nodup → n ∈ arrNames xs → extract σ xs = some xv → ∃ l t a, look σ.r n = some (.arr l t a) ∧ ∃ l' a', look (xroots xs xv') n = some (.arr l' t a')
  | .a k len τ :: l, (a, xv), (a2, xv'), hn, h, he => by
    simp only [xnames, List.nodup_cons] at hn
    simp only [extract] at he
    split at he
    · rename_i len' t b hl
      split at he
      · rename_i y r hlen hc hr
        cases he
        obtain ⟨h0, hx⟩ := cast?_some hc
        simp only [Ty.sl.injEq, true_and] at h0
        subst h0
        by_cases e : n = k
        · subst e
          exact ⟨_, _, _, hl, _, _, look_cons_same⟩
        · simp only [arrNames, List.mem_cons] at h
          rcases h with rfl | h
          · exact (e rfl).elim
          · obtain ⟨l1, t1, a1, g1, l2, a3, g2⟩ := arr_like (xv' := xv') hn.2 h hr
            exact ⟨l1, t1, a1, g1, l2, a3, by simp only [xroots]; rw [look_cons_ne e]; exact g2⟩
      · simp at he
    · simp at he
  | .r k len τ :: l, (a, xv), (a2, xv'), hn, h, he => by
    simp only [xnames, List.nodup_cons] at hn
    have e : n ≠ k := by rintro rfl; exact hn.1 (arr_name (xs := l) h)
    simp only [extract] at he
    split at he
    · split at he
      · rename_i hr
        cases he
        obtain ⟨l1, t1, a1, g1, l2, a3, g2⟩ := arr_like (xs := l) (xv' := xv') hn.2 h hr
        exact ⟨l1, t1, a1, g1, l2, a3, by simp only [xroots]; rw [look_cons_ne e]; exact g2⟩
      · simp at he
    · simp at he
  | .o k len τ :: l, (a, xv), (a2, xv'), hn, h, he => by
    simp only [xnames, List.nodup_cons] at hn
    have e : n ≠ canon k := by rintro rfl; exact hn.1 (arr_name (xs := l) h)
    have hr : extract σ l = some xv := by
      simp only [extract] at he
      split at he
      · split at he
        · split at he
          · rename_i hr; cases he; exact hr
          · simp at he
        · simp at he
      · cases h2 : extract σ l with
        | none => simp [h2] at he
        | some r => simp only [h2] at he; cases he; rfl
      · simp at he
    obtain ⟨l1, t1, a1, g1, l2, a3, g2⟩ := arr_like (xs := l) (xv' := xv') hn.2 h hr
    exact ⟨l1, t1, a1, g1, l2, a3, by simp only [xroots]; rw [look_cons_ne e]; exact g2⟩
  | .t s len τ :: l, (a, xv), (a2, xv'), hn, h, he => by
    simp only [extract] at he
    cases h1 : toV len τ (find σ.t s) with
    | none => simp [h1] at he
    | some y =>
      cases h2 : extract σ l with
      | none => simp [h1, h2] at he
      | some r =>
        simp [h1, h2] at he
        obtain ⟨rfl, rfl⟩ := he
        exact arr_like (xs := l) (xv' := xv') hn h h2

theorem noLen_root : ∀ {xs : List LV} {xv : denL (xtys xs)} {k : Nat} {R : Root}, noLen xs = true → look (xroots xs xv) k = some R → R.len = false
  | [], _, _, _, _, h => by simp [xroots, look] at h
  | .t _ len _ :: l, (_, xv), k, R, hn, h => by
    simp only [noLen, Bool.and_eq_true] at hn
    exact noLen_root (xs := l) (xv := xv) hn.2 h
  | .r n len τ :: l, (a, xv), k, R, hn, h => by
    simp only [noLen, Bool.and_eq_true, Bool.not_eq_true'] at hn
    simp only [xroots] at h
    by_cases e : k = n
    · subst e; rw [look_cons_same] at h; obtain rfl := Option.some.inj h; exact hn.1
    · rw [look_cons_ne e] at h; exact noLen_root (xs := l) (xv := xv) hn.2 h
  | .a n len τ :: l, (a, xv), k, R, hn, h => by
    simp only [noLen, Bool.and_eq_true, Bool.not_eq_true'] at hn
    simp only [xroots] at h
    by_cases e : k = n
    · subst e; rw [look_cons_same] at h; obtain rfl := Option.some.inj h; exact hn.1
    · rw [look_cons_ne e] at h; exact noLen_root (xs := l) (xv := xv) hn.2 h
  | .o n len τ :: l, (a, xv), k, R, hn, h => by
    simp only [noLen, Bool.and_eq_true, Bool.not_eq_true'] at hn
    simp only [xroots] at h
    by_cases e : k = canon n
    · subst e; rw [look_cons_same] at h; obtain rfl := Option.some.inj h; exact hn.1
    · rw [look_cons_ne e] at h; exact noLen_root (xs := l) (xv := xv) hn.2 h

theorem noLen_slot : ∀ {xs : List LV} {xv : denL (xtys xs)} {i : Nat} {sv : SV}, noLen xs = true → (i, sv) ∈ xslots xs xv → (∃ τ a, sv = .v false τ a) ∨ ∃ k, sv = .sf k
  | [], _, _, _, _, h => by simp [xslots] at h
  | .t _ len _ :: l, (_, xv), k, R, hn, h => by
    simp only [noLen, Bool.and_eq_true, Bool.not_eq_true'] at hn
    simp only [xslots, List.mem_cons] at h
    rcases h with h | h
    · simp only [Prod.mk.injEq] at h; rw [h.2, hn.1]; exact .inl ⟨_, _, rfl⟩
    · exact noLen_slot (xs := l) (xv := xv) hn.2 h
  | .o _ len _ :: l, (_, xv), k, R, hn, h => by
    simp only [noLen, Bool.and_eq_true, Bool.not_eq_true'] at hn
    simp only [xslots, List.mem_cons] at h
    rcases h with h | h
    · simp only [Prod.mk.injEq] at h; rw [h.2]; exact .inr ⟨_, rfl⟩
    · exact noLen_slot (xs := l) (xv := xv) hn.2 h
  | .r _ len _ :: l, (_, xv), k, R, hn, h => by
    simp only [noLen, Bool.and_eq_true, Bool.not_eq_true'] at hn
    exact noLen_slot (xs := l) (xv := xv) hn.2 h
  | .a _ len _ :: l, (_, xv), k, R, hn, h => by
    simp only [noLen, Bool.and_eq_true, Bool.not_eq_true'] at hn
    exact noLen_slot (xs := l) (xv := xv) hn.2 h

end Go.Proofs.Ytnffdeokhcojfaa.E
