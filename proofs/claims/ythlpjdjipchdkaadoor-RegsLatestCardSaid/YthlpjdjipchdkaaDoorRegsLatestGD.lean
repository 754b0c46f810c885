/- A plain evaluator of the program's form on data by value, and the proof that it is sound. No condition. -/
import Derived.Test.YthlpjdjipchdkaaDoorRegsLatestGC
import Derived.Calls
import Derived.Laws.AppendOwn
import Derived.Laws.Strings
import Derived.Laws.StructEq
import Derived.Laws.MakeOwn
import Derived.Laws.BytesArg
import Derived.Lib.ConvBytes
import Derived.Laws.Tables
import Derived.Laws.NewFold
import Derived.WideKeyRuns
import Derived.MapKept
import Derived.Orders
import Derived.ProofKit
import Derived.SizedLaws
import Derived.Lib.AppendZerosOnto
import Derived.Lib.Overlaps
import Derived.Laws.Externs
import Derived.Laws.IdiomCopy
import Derived.Deep.AppendSrc
import Derived.Shelf.RegionOpenPlain
import Derived.WalkKit
import Derived.Lib.Walk
import Derived.Lib.SliceRun
import Derived.Lib.JoinLaws
import Derived.Lib.Bytealg

namespace Go.Proofs.YthlpjdjipchdkaaDoor.E
open Go
set_option linter.unusedSimpArgs false
set_option linter.unusedVariables false
def KindIn (ρ : List (Nat × Root)) : SV → Prop
  | .p r _ => ∃ l t a, look ρ r = some (.box l t a)
  | .sf r => ∃ f l t xs, look ρ r = some (.arr f l t xs)
  | .mp r => ∃ l k v es z, look ρ r = some (.map l k v es z)
  | .v _ (.pair (.hole r) .unit) _ => ∃ l t a, look ρ r = some (.box l t a)
  | _ => False
theorem named0_forms {sv : SV} (h : named0 sv = true) : (∃ r, sv = .p r []) ∨ (∃ r, sv = .sf r) ∨ (∃ r, sv = .mp r) ∨ ∃ r x, sv = .v false (.pair (.hole r) .unit) x := by
  unfold named0 at h
  split at h
  · exact .inl ⟨_, rfl⟩
  · exact .inr (.inl ⟨_, rfl⟩)
  · exact .inr (.inr (.inl ⟨_, rfl⟩))
  · exact .inr (.inr (.inr ⟨_, _, rfl⟩))
  · cases h
section
variable {h h' : Hp} {L L' I I' : Set'} {β β' : Nat → Value} {ρ ρ' : List (Nat × Root)}
theorem box_off {ρ : List (Nat × Root)} {r : Nat} {v : Value} (hs : SVR0 h L I β ρ (.p r []) v) : v = ptrOf (β r) 0 := by
  obtain ⟨R, o, u, h1, h2, _, h4⟩ := hs
  have : o = 0 := by cases R <;> simp [Root.off, selOff] at h2 <;> omega
  rw [h4, this]
theorem hole_val {l : Bool} {r : Nat} {x : den (.pair (.hole r) .unit)} {v : Value} (hs : SVR0 h L I β ρ (.v l (.pair (.hole r) .unit) x) v) : ∃ u, v = .agg #[u] ∧ u.oneCell' = true ∧ (look ρ r ≠ none → u = β r) := by
  obtain ⟨cs, ⟨c1, c2, X1, X2, e1, e2, ⟨⟨u, rfl, h1⟩, _⟩, rfl, _⟩, e5, e6⟩ := hs
  refine ⟨u, by rw [e5, e1]; rfl, h1, fun hl => ?_⟩
  have := e6 (0, r) (by simp [holesOf]) hl
  rw [e1] at this
  simpa using this
theorem named0_ok {sv : SV} {v : Value} (hs : SVR0 h L I β ρ sv v) (hn : named0 sv = true) (h1 : KindIn ρ sv) (h2 : KindIn ρ' sv) (hβ : ∀ r ∈ namesOf0 sv, β' r = β r) : SVR0 h' L' I' β' ρ' sv v := by
  rcases named0_forms hn with ⟨r, rfl⟩ | ⟨r, rfl⟩ | ⟨r, rfl⟩ | ⟨r, x, rfl⟩
  · obtain ⟨l, t, a, h2⟩ := h2
    exact ⟨.box l t a, 0, t, h2, rfl, trivial, by rw [hβ r (by simp [namesOf0])]; exact box_off hs⟩
  · obtain ⟨f, l, t, xs, h2⟩ := h2
    obtain ⟨_, _, _, _, _, hv⟩ := hs
    exact ⟨f, l, t, xs, h2, by rw [hβ r (by simp [namesOf0])]; exact hv⟩
  · obtain ⟨l, k, vt, es, z, h2⟩ := h2
    obtain ⟨_, _, _, _, _, _, hv⟩ := hs
    exact ⟨l, k, vt, es, z, h2, by rw [hβ r (by simp [namesOf0])]; exact hv⟩
  · obtain ⟨u, rfl, h3, h4⟩ := hole_val hs
    obtain ⟨l, t, a, h1⟩ := h1
    have h4 := h4 (by rw [h1]; simp)
    refine ⟨[u], ⟨[u], [], [], [], rfl, rfl, ⟨⟨u, rfl, h3⟩, rfl⟩, rfl, rfl⟩, rfl, fun p hp _ => ?_⟩
    simp [holesOf] at hp
    subst hp
    simp only
    rw [hβ r (by simp [namesOf0]), ← h4]
    rfl
def NV : SV → Value → Value
  | .v _ _ _, .agg a => a.getD 0 undef
  | _, v => v
theorem named0_val {sv : SV} {v : Value} (hs : SVR0 h L I β ρ sv v) (hn : named0 sv = true) (h1 : KindIn ρ sv) (hp : ∀ k l t a, look ρ k = some (.box l t a) → ptrOf (β k) 0 = β k) : ∀ r ∈ namesOf0 sv, NV sv v = β r := by
  intro r hr
  rcases named0_forms hn with ⟨k, rfl⟩ | ⟨k, rfl⟩ | ⟨k, rfl⟩ | ⟨k, x, rfl⟩
  · simp [namesOf0] at hr
    subst hr
    obtain ⟨l, t, a, h1⟩ := h1
    rw [show NV (.p r []) v = v from rfl, box_off hs, hp r l t a h1]
  · simp [namesOf0] at hr
    subst hr
    obtain ⟨_, _, _, _, _, hv⟩ := hs
    exact hv
  · simp [namesOf0] at hr
    subst hr
    obtain ⟨_, _, _, _, _, _, hv⟩ := hs
    exact hv
  · simp [namesOf0] at hr
    subst hr
    obtain ⟨u, rfl, _, h4⟩ := hole_val hs
    obtain ⟨l, t, a, h1⟩ := h1
    exact h4 (by rw [h1]; simp)
theorem svSame0_ok {a sv : SV} {v : Value} (hs : SVR0 h L I β ρ a v) (he : svSame0 a sv = true) (hn : named0 sv = true) : SVR0 h L I β ρ sv v ∧ (KindIn ρ sv → KindIn ρ a) := by
  unfold svSame0 at he
  split at he
  · rw [← Nat.eq_of_beq_eq_true he]; exact ⟨hs, fun h => h⟩
  · rw [← Nat.eq_of_beq_eq_true he]; exact ⟨hs, fun h => h⟩
  · rw [← Nat.eq_of_beq_eq_true he]; exact ⟨hs, fun h => h⟩
  · rename_i l1 r x l2 k y
    obtain rfl := Nat.eq_of_beq_eq_true he
    refine ⟨?_, fun h => h⟩
    obtain ⟨u, rfl, h3, h4⟩ := hole_val hs
    refine ⟨[u], ⟨[u], [], [], [], rfl, rfl, ⟨⟨u, rfl, h3⟩, rfl⟩, rfl, rfl⟩, rfl, fun p hp hl => ?_⟩
    simp [holesOf] at hp
    subst hp
    simp only at hl ⊢
    rw [← h4 hl]; rfl
  · cases he
def KindL (ρ : List (Nat × Root)) : List SV → Prop
  | [] => True
  | a :: l => KindIn ρ a ∧ KindL ρ l
def Kind (ρ : List (Nat × Root)) : SV → Prop
  | .fn _ a b => KindL ρ a ∧ KindL ρ b
  | sv => KindIn ρ sv
theorem namesOfL_mem {r : Nat} : ∀ {l : List SV} {a : SV}, a ∈ l → r ∈ namesOf0 a → r ∈ namesOfL l
  | b :: l, a, ha, hr => by
    simp only [namesOfL, appN_eq, List.mem_append]
    rcases List.mem_cons.1 ha with rfl | ha
    · exact .inl hr
    · exact .inr (namesOfL_mem ha hr)
theorem namedL_ok : ∀ {l : List SV} {vs : List Value}, All2 (SVR0 h L I β ρ) l vs → named0L l = true → KindL ρ l → KindL ρ' l → (∀ r ∈ namesOfL l, β' r = β r) → All2 (SVR0 h' L' I' β' ρ') l vs
  | [], [], _, _, _, _, _ => trivial
  | [], _ :: _, hs, _, _, _, _ => hs.elim
  | _ :: _, [], hs, _, _, _, _ => hs.elim
  | a :: l, v :: vs, ⟨h1, h2⟩, hn, ⟨k1, k2⟩, ⟨k3, k4⟩, hβ => by
    simp only [named0L, Bool.and_eq_true] at hn
    exact ⟨named0_ok h1 hn.1 k1 k3 (fun r hr => hβ r (namesOfL_mem (by simp) hr)), namedL_ok h2 hn.2 k2 k4 (fun r hr => hβ r (by simp only [namesOfL, appN_eq, List.mem_append]; exact .inr hr))⟩
theorem svSameL_ok : ∀ {a l : List SV} {vs : List Value}, All2 (SVR0 h L I β ρ) a vs → svSameL a l = true → named0L l = true → All2 (SVR0 h L I β ρ) l vs
  | [], [], [], _, _, _ => trivial
  | [], [], _ :: _, hs, _, _ => hs.elim
  | [], _ :: _, _, _, he, _ => by simp [svSameL] at he
  | _ :: _, [], _, _, he, _ => by simp [svSameL] at he
  | _ :: _, _ :: _, [], hs, _, _ => hs.elim
  | a :: al, b :: l, v :: vs, ⟨h1, h2⟩, he, hn => by
    simp only [svSameL, Bool.and_eq_true] at he
    simp only [named0L, Bool.and_eq_true] at hn
    exact ⟨(svSame0_ok h1 he.1 hn.1).1, svSameL_ok h2 he.2 hn.2⟩
theorem named_fn {sv : SV} (h : named sv = true) : (∃ f a b, sv = .fn f a b ∧ named0L a = true ∧ named0L b = true) ∨ (named0 sv = true ∧ (∀ f a b, sv ≠ .fn f a b) ∧ ∀ l, sv ≠ .tup l) := by
  cases sv <;> simp only [named, Bool.and_eq_true] at h <;> first | exact .inl ⟨_, _, _, rfl, h.1, h.2⟩ | (refine .inr ⟨h, by simp, ?_⟩; intro l e; first | (cases e; done) | (simp [named0] at h))
theorem named_ok {sv : SV} {v : Value} (hs : SVR h L I β ρ sv v) (hn : named sv = true) (h1 : Kind ρ sv) (h2 : Kind ρ' sv) (hβ : ∀ r ∈ namesOf sv, β' r = β r) : SVR h' L' I' β' ρ' sv v := by
  rcases named_fn hn with ⟨f, a, b, rfl, n1, n2⟩ | ⟨n1, n2, n3⟩
  · obtain ⟨us, vs, hv, g1, g2⟩ := hs
    exact ⟨us, vs, hv, namedL_ok g1 n1 h1.1 h2.1 (fun r hr => hβ r (by simp only [namesOf, appN_eq, List.mem_append]; exact .inl hr)), namedL_ok g2 n2 h1.2 h2.2 (fun r hr => hβ r (by simp only [namesOf, appN_eq, List.mem_append]; exact .inr hr))⟩
  · have e1 : SVR0 h L I β ρ sv v := by cases sv <;> first | exact hs | exact (n2 _ _ _ rfl).elim | exact (n3 _ rfl).elim
    have e2 : KindIn ρ sv ∧ KindIn ρ' sv ∧ ∀ r ∈ namesOf0 sv, β' r = β r := by cases sv <;> first | exact ⟨h1, h2, hβ⟩ | exact (n2 _ _ _ rfl).elim
    exact SVR_of0 (named0_ok e1 n1 e2.1 e2.2.1 e2.2.2)
theorem svSame_ok {a sv : SV} {v : Value} (hs : SVR h L I β ρ a v) (he : svSame a sv = true) (hn : named sv = true) : SVR h L I β ρ sv v := by
  rcases named_fn hn with ⟨f, x, y, rfl, n1, n2⟩ | ⟨n1, n2, n3⟩
  · cases a with
    | fn g c d =>
      simp only [svSame, Bool.and_eq_true] at he
      obtain rfl := Nat.eq_of_beq_eq_true he.1.1
      obtain ⟨us, vs, hv, g1, g2⟩ := hs
      exact ⟨us, vs, hv, svSameL_ok g1 he.1.2 n1, svSameL_ok g2 he.2 n2⟩
    | _ => simp [svSame, svSame0] at he
  · have e0 : svSame0 a sv = true := by
      cases sv <;> first | exact (n2 _ _ _ rfl).elim | (cases a <;> first | exact he | (simp [svSame, svSame0] at he))
    have e1 : SVR0 h L I β ρ a v := by
      cases a <;> first | exact hs | (simp [svSame0] at e0)
    exact SVR_of0 (svSame0_ok e1 e0 n1).1
theorem named_eq {sv : SV} {v : Value} (hs : SVR h L I β ρ sv v) (hs' : SVR h' L' I' β' ρ' sv v) (hn : named sv = true) (h1 : Kind ρ sv) (h2 : Kind ρ' sv) (hp : ∀ k l t a, look ρ k = some (.box l t a) → ptrOf (β k) 0 = β k)
    (hp' : ∀ k l t a, look ρ' k = some (.box l t a) → ptrOf (β' k) 0 = β' k) : ∀ r ∈ namesOf sv, β' r = β r := by
  have list : ∀ {l : List SV} {vs : List Value}, All2 (SVR0 h L I β ρ) l vs → All2 (SVR0 h' L' I' β' ρ') l vs → named0L l = true → KindL ρ l → KindL ρ' l → ∀ r ∈ namesOfL l, β' r = β r := by
    intro l
    induction l with
    | nil => intro vs _ _ _ _ _ r hr; simp [namesOfL] at hr
    | cons a l ih =>
      intro vs g1 g2 hn k1 k2 r hr
      cases vs with
      | nil => exact g1.elim
      | cons v vs =>
        simp only [named0L, Bool.and_eq_true] at hn
        simp only [namesOfL, appN_eq, List.mem_append] at hr
        rcases hr with hr | hr
        · rw [← named0_val g1.1 hn.1 k1.1 hp r hr, ← named0_val g2.1 hn.1 k2.1 hp' r hr]
        · exact ih g1.2 g2.2 hn.2 k1.2 k2.2 r hr
  rcases named_fn hn with ⟨f, a, b, rfl, n1, n2⟩ | ⟨n1, n2, n3⟩
  · obtain ⟨us, vs, hv, g1, g2⟩ := hs
    obtain ⟨us', vs', hv', g1', g2'⟩ := hs'
    rw [hv] at hv'
    simp only [Value.func.injEq, true_and] at hv'
    obtain ⟨e1, e2⟩ := hv'
    have e1 : us = us' := by simpa using e1
    have e2 : vs = vs' := by simpa using e2
    subst e1; subst e2
    intro r hr
    simp only [namesOf, appN_eq, List.mem_append] at hr
    rcases hr with hr | hr
    · exact list g1 g1' n1 h1.1 h2.1 r hr
    · exact list g2 g2' n2 h1.2 h2.2 r hr
  · intro r hr
    have e1 : SVR0 h L I β ρ sv v ∧ SVR0 h' L' I' β' ρ' sv v ∧ KindIn ρ sv ∧ KindIn ρ' sv ∧ r ∈ namesOf0 sv := by cases sv <;> first | exact ⟨hs, hs', h1, h2, hr⟩ | exact (n2 _ _ _ rfl).elim | exact (n3 _ rfl).elim
    rw [← named0_val e1.1 n1 e1.2.2.1 hp r e1.2.2.2.2, ← named0_val e1.2.1 n1 e1.2.2.2.1 hp' r e1.2.2.2.2]
end
theorem hasR_mem {r : Nat} : ∀ {xs : List LV}, kindOk0.hasR r xs = true → ∃ len τ τr, LV.r r len τ τr ∈ xs
  | [], h => by simp [kindOk0.hasR] at h
  | .r n len τ τr :: l, h => by
    simp only [kindOk0.hasR, Bool.or_eq_true] at h
    rcases h with h | h
    · rw [Nat.eq_of_beq_eq_true h]; exact ⟨len, τ, τr, by simp⟩
    · obtain ⟨a, b, c, h⟩ := hasR_mem h; exact ⟨a, b, c, by simp [h]⟩
  | .t _ _ _ :: l, h | .a _ _ _ :: l, h | .m _ _ _ _ :: l, h | .o _ _ _ _ :: l, h => by obtain ⟨a, b, c, h⟩ := hasR_mem (xs := l) h; exact ⟨a, b, c, by simp [h]⟩
theorem hasA_mem {r : Nat} : ∀ {xs : List LV}, kindOk0.hasA r xs = true → ∃ len τ, LV.a r len τ ∈ xs
  | [], h => by simp [kindOk0.hasA] at h
  | .a n len τ :: l, h => by
    simp only [kindOk0.hasA, Bool.or_eq_true] at h
    rcases h with h | h
    · rw [Nat.eq_of_beq_eq_true h]; exact ⟨len, τ, by simp⟩
    · obtain ⟨a, b, h⟩ := hasA_mem h; exact ⟨a, b, by simp [h]⟩
  | .t _ _ _ :: l, h | .r _ _ _ _ :: l, h | .m _ _ _ _ :: l, h | .o _ _ _ _ :: l, h => by obtain ⟨a, b, h⟩ := hasA_mem (xs := l) h; exact ⟨a, b, by simp [h]⟩
theorem hasM_mem {r : Nat} : ∀ {xs : List LV}, kindOk0.hasM r xs = true → ∃ len k v, LV.m r len k v ∈ xs
  | [], h => by simp [kindOk0.hasM] at h
  | .m n len k v :: l, h => by
    simp only [kindOk0.hasM, Bool.or_eq_true] at h
    rcases h with h | h
    · rw [Nat.eq_of_beq_eq_true h]; exact ⟨len, k, v, by simp⟩
    · obtain ⟨a, b, c, h⟩ := hasM_mem h; exact ⟨a, b, c, by simp [h]⟩
  | .t _ _ _ :: l, h | .r _ _ _ _ :: l, h | .a _ _ _ :: l, h | .o _ _ _ _ :: l, h => by obtain ⟨a, b, c, h⟩ := hasM_mem (xs := l) h; exact ⟨a, b, c, by simp [h]⟩
structure KRoot (β : Nat → Value) (σ : St) (tm : Array Value) (xs : List LV) (xv : denL (xtys xs)) (r : Nat) : Prop where
  name : r ∈ xnames xs
  val : srcB β tm xs r = β r
theorem kind0_ok {β : Nat → Value} {σ : St} {tm : Array Value} {xs : List LV} {xv : denL (xtys xs)} (hn : (xnames xs).Nodup) (hE : Exts σ xs xv) {sv : SV} (hk : kindOk0 xs sv = true) :
    KindIn σ.r sv ∧ KindIn (xroots xs xv) sv ∧ ∀ r ∈ namesOf0 sv, srcB β tm xs r = β r := by
  unfold kindOk0 at hk
  split at hk
  · rename_i r s
    obtain ⟨len, τ, τr, hm⟩ := hasR_mem hk
    obtain ⟨a, ⟨len', t, a0, h1, _⟩, h2, h3⟩ := xlook_mem (β := β) (tm := tm) hn hE hm rfl
    exact ⟨⟨_, _, _, h1⟩, ⟨_, _, _, h2⟩, fun k hk => by simp [namesOf0] at hk; subst hk; exact h3⟩
  · rename_i r
    obtain ⟨len, τ, hm⟩ := hasA_mem hk
    obtain ⟨a, ⟨f, len', h1, _⟩, h2, h3⟩ := xlook_mem (β := β) (tm := tm) hn hE hm rfl
    exact ⟨⟨_, _, _, _, h1⟩, ⟨_, _, _, _, h2⟩, fun k hk => by simp [namesOf0] at hk; subst hk; exact h3⟩
  · rename_i r
    obtain ⟨len, kt, vt, hm⟩ := hasM_mem hk
    obtain ⟨a, ⟨len', h1, _⟩, h2, h3⟩ := xlook_mem (β := β) (tm := tm) hn hE hm rfl
    exact ⟨⟨_, _, _, _, _, h1⟩, ⟨_, _, _, _, _, h2⟩, fun k hk => by simp [namesOf0] at hk; subst hk; exact h3⟩
  · rename_i l r x
    obtain ⟨len, τ, τr, hm⟩ := hasR_mem hk
    obtain ⟨a, ⟨len', t, a0, h1, _⟩, h2, h3⟩ := xlook_mem (β := β) (tm := tm) hn hE hm rfl
    exact ⟨⟨_, _, _, h1⟩, ⟨_, _, _, h2⟩, fun k hk => by simp [namesOf0] at hk; subst hk; exact h3⟩
  · cases hk
theorem kind_ok {β : Nat → Value} {σ : St} {tm : Array Value} {xs : List LV} {xv : denL (xtys xs)} (hn : (xnames xs).Nodup) (hE : Exts σ xs xv) {sv : SV} (hnm : named sv = true) (hk : kindOk xs sv = true) :
    Kind σ.r sv ∧ Kind (xroots xs xv) sv ∧ ∀ r ∈ namesOf sv, srcB β tm xs r = β r := by
  have list : ∀ {l : List SV}, kindOkL xs l = true → KindL σ.r l ∧ KindL (xroots xs xv) l ∧ ∀ r ∈ namesOfL l, srcB β tm xs r = β r := by
    intro l
    induction l with
    | nil => intro _; exact ⟨trivial, trivial, by simp [namesOfL]⟩
    | cons a l ih =>
      intro h
      simp only [kindOkL, Bool.and_eq_true] at h
      obtain ⟨a1, a2, a3⟩ := kind0_ok (β := β) (tm := tm) hn hE h.1
      obtain ⟨b1, b2, b3⟩ := ih h.2
      refine ⟨⟨a1, b1⟩, ⟨a2, b2⟩, fun r hr => ?_⟩
      simp only [namesOfL, appN_eq, List.mem_append] at hr
      rcases hr with hr | hr
      · exact a3 r hr
      · exact b3 r hr
  rcases named_fn hnm with ⟨f, a, b, rfl, _, _⟩ | ⟨n1, n2, _⟩
  · simp only [kindOk, Bool.and_eq_true] at hk
    obtain ⟨a1, a2, a3⟩ := list hk.1
    obtain ⟨b1, b2, b3⟩ := list hk.2
    refine ⟨⟨a1, b1⟩, ⟨a2, b2⟩, fun r hr => ?_⟩
    simp only [namesOf, appN_eq, List.mem_append] at hr
    rcases hr with hr | hr
    · exact a3 r hr
    · exact b3 r hr
  · have e : kindOk0 xs sv = true := by cases sv <;> first | exact hk | exact (n2 _ _ _ rfl).elim
    have := kind0_ok (β := β) (tm := tm) (σ := σ) (xv := xv) hn hE e
    cases sv <;> first | exact this | exact (n2 _ _ _ rfl).elim
section
variable {C : Ctx} {I : Set'} {β : Nat → Value} {F : Nat → List Nat} {w : World} {tm : Array Value}
def KF (C : Ctx) (tm : Array Value) : (ks : List KV) → denL (ktys ks) → Prop
  | [], _ => True
  | .v s len τ :: l, (a, r) => (∃ cs, Rep C.h (Sx C.L C.I len) true τ a cs [] ∧ tm.getD s undef = wrapV τ cs) ∧ KF C tm l r
  | .q s len τ :: l, (a, r) => Rep C.h (Sx C.L C.I len) true (.ref false τ) a [tm.getD s undef] [] ∧ KF C tm l r
  | .c _ _ :: l, (_, r) => KF C tm l r
theorem kindsOk_mem {xs : List LV} : ∀ {ks : List KV}, kindsOk xs ks = true → ∀ {s : Nat} {sv : SV}, KV.c s sv ∈ ks → named sv = true ∧ kindOk xs sv = true
  | x :: l, h, s, sv, hm => by
    have hl : kindsOk xs l = true := by
      cases x <;> simp only [kindsOk, Bool.and_eq_true] at h <;> first | exact h.2 | exact h
    rcases List.mem_cons.1 hm with rfl | hm
    · simp only [kindsOk, Bool.and_eq_true] at h; exact h.1
    · exact kindsOk_mem hl hm
theorem xslots_ok {σ : St} {β' : Nat → Value} {ρ : List (Nat × Root)} (hs : ∀ i, SVR (hpOf w) C.L I β σ.r (find σ.t i) (tm.getD i undef)) : ∀ {xs : List LV} {xv : denL (xtys xs)}, Exts σ xs xv → (∀ s len τ, LV.t s len τ ∈ xs → solid τ = true) →
    (∀ s n len τ, LV.o s n len τ ∈ xs → (∃ f l t ys, look ρ n = some (.arr f l t ys)) ∧ β' n = tm.getD s undef) → ∀ i sv, (i, sv) ∈ xslots xs xv → SVR (hpOf w) C.L I β' ρ sv (tm.getD i undef)
  | [], _, _, _, _, i, sv, h => by simp [xslots] at h
  | .t s len τ :: l, (a, xv), ⟨h1, h2⟩, hT, hO, i, sv, h => by
    simp only [xslots, List.mem_cons] at h
    rcases h with h | h
    · simp only [Prod.mk.injEq] at h
      obtain ⟨rfl, rfl⟩ := h
      obtain ⟨cs, e1, e2⟩ := toV_ok h1 (hs i)
      exact ⟨cs, e1, e2, Holes.solid (hT i len τ (by simp))⟩
    · exact xslots_ok hs h2 (fun s len τ hm => hT s len τ (by simp [hm])) (fun s n len τ hm => hO s n len τ (by simp [hm])) i sv h
  | .o s n len τ :: l, (a, xv), ⟨h1, h2⟩, hT, hO, i, sv, h => by
    simp only [xslots, List.mem_cons] at h
    rcases h with h | h
    · simp only [Prod.mk.injEq] at h
      obtain ⟨rfl, rfl⟩ := h
      obtain ⟨⟨f, l', t, ys, g1⟩, g2⟩ := hO i n len τ (by simp)
      exact ⟨f, l', t, ys, g1, g2.symm⟩
    · exact xslots_ok hs h2 (fun s len τ hm => hT s len τ (by simp [hm])) (fun s n len τ hm => hO s n len τ (by simp [hm])) i sv h
  | .r _ _ _ _ :: l, (a, xv), ⟨h1, h2⟩, hT, hO, i, sv, h | .a _ _ _ :: l, (a, xv), ⟨h1, h2⟩, hT, hO, i, sv, h | .m _ _ _ _ :: l, (a, xv), ⟨h1, h2⟩, hT, hO, i, sv, h =>
    xslots_ok (xs := l) hs h2 (fun s len τ hm => hT s len τ (by simp [hm])) (fun s n len τ hm => hO s n len τ (by simp [hm])) i sv h
theorem kslots_ok {σ : St} {xs : List LV} {xv : denL (xtys xs)} (hIh : ∀ b, C.I b → I b ∧ hpOf w b = C.h b) (hLh : ∀ b, C.L b → hpOf w b = C.h b) (hs : ∀ i, SVR (hpOf w) C.L I β σ.r (find σ.t i) (tm.getD i undef)) (hn : (xnames xs).Nodup) (hE : Exts σ xs xv) :
    ∀ {ks : List KV} {kv : denL (ktys ks)}, pinOk σ ks = true → KF C tm ks kv → kindsOk xs ks = true → ksSolid ks = true → ∀ i sv, (i, sv) ∈ kslots ks kv → SVR (hpOf w) C.L I (srcB β tm xs) (xroots xs xv) sv (tm.getD i undef)
  | [], _, _, _, _, _, i, sv, h => by simp [kslots] at h
  | .v s len τ :: l, (a, kv), hp, hK, hk, hsol, i, sv, h => by
    simp only [ksSolid, Bool.and_eq_true] at hsol
    simp only [kslots, List.mem_cons] at h
    rcases h with h | h
    · simp only [Prod.mk.injEq] at h
      obtain ⟨rfl, rfl⟩ := h
      obtain ⟨cs, e1, e2⟩ := hK.1
      exact ⟨cs, Rep.keep (Sx.mono hIh hLh len) (by simp) e1, e2, Holes.solid hsol.1⟩
    · exact kslots_ok hIh hLh hs hn hE (ks := l) hp hK.2 hk hsol.2 i sv h
  | .q s len τ :: l, (a, kv), hp, hK, hk, hsol, i, sv, h => by
    simp only [kslots, List.mem_cons] at h
    rcases h with h | h
    · simp only [Prod.mk.injEq] at h
      obtain ⟨rfl, rfl⟩ := h
      exact Rep.keep (Sx.mono hIh hLh len) (by simp) hK.1
    · exact kslots_ok hIh hLh hs hn hE (ks := l) hp hK.2 hk hsol i sv h
  | .c s sv0 :: l, (a, kv), hp, hK, hk, hsol, i, sv, h => by
    simp only [pinOk, Bool.and_eq_true] at hp
    simp only [kindsOk, Bool.and_eq_true] at hk
    simp only [kslots, List.mem_cons] at h
    rcases h with h | h
    · simp only [Prod.mk.injEq] at h
      obtain ⟨rfl, rfl⟩ := h
      have h1 := svSame_ok (hs i) hp.1 hk.1.1
      obtain ⟨k1, k2, k3⟩ := kind_ok (β := β) (tm := tm) hn hE hk.1.1 hk.1.2
      exact named_ok h1 hk.1.1 k1 k2 k3
    · exact kslots_ok hIh hLh hs hn hE (ks := l) hp.2 hK hk.2 hsol i sv h
structure Room (C : Ctx) (I : Set') (w : World) : Prop where
  shared : ∀ b, I b → b < w.heap.size ∧ (C.I b ∨ C.X b ∨ C.n ≤ b)
  sub : ∀ b, C.I b → I b
  frame : ∀ b, b < C.n → ¬ C.X b → hpOf w b = C.h b
  grow : C.n ≤ w.heap.size
  rest : restOf w = C.z
theorem Inv.room {σ : St} (hi : Inv C I β F σ w tm) : Room C I w := ⟨hi.shared, hi.sub, hi.frame, hi.grow, hi.rest⟩
theorem find_mem : ∀ {l : List (Nat × SV)} {i : Nat}, find l i = .x ∨ (i, find l i) ∈ l
  | [], _ => .inl rfl
  | (k, v) :: l, i => by
    simp only [find]
    cases hb : Nat.beq k i with
    | true => obtain rfl := Nat.eq_of_beq_eq_true hb; right; simp
    | false =>
      rcases find_mem (l := l) (i := i) with h | h
      · exact .inl h
      · right; simp [h]
theorem appT_mem {p : Nat × SV} : ∀ {a b : List (Nat × SV)}, p ∈ appT a b ↔ p ∈ a ∨ p ∈ b
  | [], b => by simp [appT]
  | x :: a, b => by simp [appT, appT_mem (a := a), or_assoc]
theorem fill_inv {σ : St} {c : Cut} {n bb : Nat} {kv : denL (ktys c.ks)} {xv : denL (xtys c.xs)} (hm : Room C I w) (htk : C.tk = []) (hS : Src C I β F σ w tm c.xs) (hE : Exts σ c.xs xv) (hnx : (xnames c.xs).Nodup) (hnt : (takenNames σ c.xs).Nodup)
    (hp : pinOk σ c.ks = true) (hK : KF C tm c.ks kv) (hk : kindsOk c.xs c.ks = true) (hf : holesFit (ramN c.xs) c.xs = true) (hsol : ksSolid c.ks = true) (hsz : tm.size = n) :
    Inv C I (srcB β tm c.xs) (srcF σ F c.xs) (fill n bb c.ks kv c.xs xv) w tm := by
  have hroot : ∀ k R, look (xroots c.xs xv) k = some R → Kept C I w (srcB β tm c.xs k) R (srcF σ F c.xs k) ∧ RootH (hpOf w) (srcB β tm c.xs) (xroots c.xs xv) (srcB β tm c.xs k) R ∧ ∃ x ∈ c.xs, x.nm = some k ∧ srcF σ F c.xs k = x.blk σ F := by
    intro k R hl
    obtain ⟨x, h1, h2, a, rfl, h4, h5, h6⟩ := xlook (β := β) (F := F) (tm := tm) hE hl
    rw [h5, h6]
    exact ⟨xkept hS h1 h2 h4, xholes hS hnx hE hf h1 h2 h4, x, h1, h2, rfl⟩
  constructor
  case size => exact hsz
  case slots =>
    intro i
    simp only [fill]
    rcases find_mem (l := appT (xslots c.xs xv) (kslots c.ks kv)) (i := i) with h | h
    · rw [h]; exact trivial
    · rcases appT_mem.1 h with h | h
      · refine xslots_ok hS.slots hE (fun s len τ hm => holesFit_t hf hm) (fun s n len τ hm => ?_) i _ h
        obtain ⟨a, _, h2, h3⟩ := xlook_mem (β := β) (tm := tm) hnx hE hm rfl
        exact ⟨⟨_, _, _, _, h2⟩, h3⟩
      · exact kslots_ok (fun b hb => ⟨hm.sub b hb, hm.frame b (C.Iok b hb).1 (C.Iok b hb).2⟩) (fun b hb => hm.frame b (C.Lok b hb).1 (C.Lok b hb).2) hS.slots hnx hE hp hK hk hsol i _ h
  case conds => intro k e u v h; simp [fill] at h
  case undefs => intro k e u v h; simp [fill] at h
  case roots => intro r R h; exact (hroot r R h).1.root
  case holes => intro r R h; exact (hroot r R h).2.1
  case nodup => intro r R h; exact (hroot r R h).1.nodup
  case disj =>
    intro r r' R R' hne h h' b hb hb'
    obtain ⟨_, _, x, x1, x2, x3⟩ := hroot r R h
    obtain ⟨_, _, y, y1, y2, y3⟩ := hroot r' R' h'
    rw [x3] at hb; rw [y3] at hb'
    unfold LV.blk at hb hb'
    cases e1 : x.src σ with
    | none => simp [e1] at hb
    | some k =>
      cases e2 : y.src σ with
      | none => simp [e2] at hb'
      | some k' =>
        simp only [e1] at hb
        simp only [e2] at hb'
        have hkk : k ≠ k' := by
          rintro rfl
          have := src_inj hnt x1 y1 e1 e2
          rw [x2, y2] at this
          exact hne (Option.some.inj this)
        have there : ∀ {x : LV} {k : Nat}, x ∈ c.xs → x.src σ = some k → ∃ R, look σ.r k = some R := by
          intro x k hx hk
          have : ∀ {xs : List LV} {xv : denL (xtys xs)}, Exts σ xs xv → x ∈ xs → ∃ R, look σ.r k = some R := by
            intro xs
            induction xs with
            | nil => intro _ _ h; simp at h
            | cons z l ih =>
              rintro ⟨za, xv⟩ ⟨z1, z2⟩ hm
              rcases List.mem_cons.1 hm with rfl | hm
              · cases x with
                | t _ _ _ => cases hk
                | r n _ _ _ => obtain ⟨_, _, _, h, _⟩ := z1; obtain rfl := Option.some.inj hk; exact ⟨_, h⟩
                | a n _ _ => obtain ⟨_, _, h, _⟩ := z1; obtain rfl := Option.some.inj hk; exact ⟨_, h⟩
                | m n _ _ _ => obtain ⟨_, h, _⟩ := z1; obtain rfl := Option.some.inj hk; exact ⟨_, h⟩
                | o s n _ _ =>
                  rcases z1 with ⟨j, f, l', h0, h1, _⟩ | ⟨h0, _⟩
                  · simp only [LV.src, h0, Option.some.injEq] at hk
                    subst hk; exact ⟨_, h1⟩
                  · simp [LV.src, h0] at hk
              · exact ih z2 hm
          exact this hE hx
        obtain ⟨R1, g1⟩ := there x1 e1
        obtain ⟨R2, g2⟩ := there y1 e2
        exact hS.disj k (src_mem x1 e1) k' (src_mem y1 e2) R1 R2 hkk g1 g2 b hb hb'
  case own => intro r R h; exact (hroot r R h).1.own
  case shared => exact hm.shared
  case sub => exact hm.sub
  case frame => exact hm.frame
  case grow => exact hm.grow
  case rest => exact hm.rest
  case frames => rw [htk]; exact trivial
theorem joinX_ok {kp : List Nat} : ∀ {xs : List LV} {F : Nat → List Nat} {σ σ' : St}, Inv C I β F σ w tm → joinX kp xs σ = some σ' → ∃ F', Inv C I β F' σ' w tm ∧ Lss I σ I σ' ∧ ∀ k R, look σ'.r k = some R → ∀ b ∈ F' k, ∃ j R0, look σ.r j = some R0 ∧ b ∈ F j
  | [], F, σ, σ', hi, he => by
    simp only [joinX, Option.some.injEq] at he
    subst he
    exact ⟨F, hi, .refl, fun k R hl b hb => ⟨k, R, hl, hb⟩⟩
  | .r n _ _ _ :: l, F, σ, σ', hi, he => by
    simp only [joinX] at he
    cases hj : joinK kp σ n with
    | none => simp [hj] at he
    | some σ1 =>
      simp only [hj] at he
      obtain ⟨F1, h1, h2⟩ := joinK_ok hi hj
      obtain ⟨F2, h3, h4, h5⟩ := joinX_ok h1 he
      refine ⟨F2, h3, (h2.less (I := I)).lss.trans h4, fun k R hl b hb => ?_⟩
      obtain ⟨j, R0, g1, g2⟩ := h5 k R hl b hb
      by_cases e : j = n
      · subst e
        obtain ⟨i, i1, i2, _⟩ := h2.from' b g2
        cases hl : look σ.r i with
        | none => exact (i1 hl).elim
        | some R => exact ⟨i, R, hl, i2⟩
      · rw [h2.same j e] at g2
        obtain ⟨R1, g3, _⟩ := (h2.less (I := I)).back g1
        exact ⟨j, R1, g3, g2⟩
  | .m n _ _ _ :: l, F, σ, σ', hi, he => by
    simp only [joinX] at he
    cases hj : joinK kp σ n with
    | none => simp [hj] at he
    | some σ1 =>
      simp only [hj] at he
      obtain ⟨F1, h1, h2⟩ := joinK_ok hi hj
      obtain ⟨F2, h3, h4, h5⟩ := joinX_ok h1 he
      refine ⟨F2, h3, (h2.less (I := I)).lss.trans h4, fun k R hl b hb => ?_⟩
      obtain ⟨j, R0, g1, g2⟩ := h5 k R hl b hb
      by_cases e : j = n
      · subst e
        obtain ⟨i, i1, i2, _⟩ := h2.from' b g2
        cases hl : look σ.r i with
        | none => exact (i1 hl).elim
        | some R => exact ⟨i, R, hl, i2⟩
      · rw [h2.same j e] at g2
        obtain ⟨R1, g3, _⟩ := (h2.less (I := I)).back g1
        exact ⟨j, R1, g3, g2⟩
  | .t _ _ _ :: l, F, σ, σ', hi, he | .a _ _ _ :: l, F, σ, σ', hi, he | .o _ _ _ _ :: l, F, σ, σ', hi, he => by
    simp only [joinX] at he
    exact joinX_ok hi he
end
end Go.Proofs.YthlpjdjipchdkaaDoor.E

namespace Go.Proofs.YthlpjdjipchdkaaDoor.E
open Go
set_option linter.unusedSimpArgs false
set_option linter.unusedVariables false
theorem look_appR {k : Nat} : ∀ {a b : List (Nat × Root)}, look (appR a b) k = match look a k with | some R => some R | none => look b k
  | [], b => rfl
  | (n, R) :: a, b => by
    simp only [appR, look]
    cases Nat.beq n k with
    | true => rfl
    | false => exact look_appR
theorem look_delAll {k : Nat} : ∀ {l : List Nat} {r : List (Nat × Root)}, look (delAll l r) k = if k ∈ l then none else look r k
  | [], r => by simp [delAll]
  | n :: l, r => by
    rw [delAll, look_delAll (l := l)]
    by_cases h : k ∈ l
    · simp [h]
    · simp only [h, if_false, List.mem_cons, or_false]
      by_cases e : k = n
      · subst e; simp [look_del_same]
      · simp [e, look_del_ne e]
theorem find_keepT {asg gone : List Nat} {i : Nat} : ∀ {l : List (Nat × SV)}, find (keepT asg gone l) i = .x ∨ (find (keepT asg gone l) i = find l i ∧ natMem i asg = false ∧ usesAny gone (find l i) = false)
  | [] => .inl rfl
  | (k, v) :: l => by
    simp only [keepT]
    cases hb : (natMem k asg || usesAny gone v) with
    | true =>
      simp only [find]
      cases hk : Nat.beq k i with
      | true => exact .inl rfl
      | false => exact find_keepT (l := l)
    | false =>
      simp only [find]
      cases hk : Nat.beq k i with
      | true =>
        obtain rfl := Nat.eq_of_beq_eq_true hk
        simp only [Bool.or_eq_false_iff] at hb
        exact .inr ⟨rfl, hb.1, hb.2⟩
      | false => exact find_keepT (l := l)
theorem usesAny_mem {gone : List Nat} {sv : SV} (h : usesAny gone sv = false) : ∀ r, sv.uses r = true → r ∉ gone := by
  intro r hu hm
  induction gone with
  | nil => simp at hm
  | cons k l ih =>
    simp only [usesAny, Bool.or_eq_false_iff] at h
    rcases List.mem_cons.1 hm with rfl | hm
    · rw [h.1] at hu; cases hu
    · exact ih h.2 hm
theorem freeAll_ok : ∀ {l : List Nat} {ρ : List (Nat × Root)}, freeAll l ρ = true → ∀ n ∈ l, freeN n ρ = true
  | k :: l, ρ, h, n, hn => by
    simp only [freeAll, Bool.and_eq_true] at h
    rcases List.mem_cons.1 hn with rfl | hn
    · exact h.1
    · exact freeAll_ok h.2 n hn
section
variable {C C' : Ctx} {I I' : Set'} {β β' : Nat → Value} {F F' : Nat → List Nat} {w w' : World} {tm tm' : Array Value}
structure Within (C C' : Ctx) (I : Set') (F : Nat → List Nat) (w : World) (tk : List Nat) : Prop where
  h : C'.h = hpOf w
  n : C'.n = w.heap.size
  I : C'.I = I
  L : ∀ b, C.L b → C'.L b
  X : ∀ b, C'.X b ↔ ∃ r ∈ tk, b ∈ F r
  z : C'.z = restOf w
  P : C'.P = C.P
def pickF {α : Type} (ρ : List (Nat × Root)) (f g : Nat → α) (k : Nat) : α := match look ρ k with | some _ => f k | none => g k
theorem frames_keep {h h' : Hp} {L L' I I' : Set'} {β β' : Nat → Value} {ρ ρ' : List (Nat × Root)} {gone : List Nat} (hs : ∀ sv v, usesAny gone sv = false → SVR h L I β ρ sv v → SVR h' L' I' β' ρ' sv v) :
    ∀ {l : List (List (Nat × SV))} {m : List (Array Value)}, All2 (FrameR h L I β ρ) l m → All2 (FrameR h' L' I' β' ρ') (keepKs gone l) m
  | [], [], _ => trivial
  | _ :: _, [], h => h.elim
  | [], _ :: _, h => h.elim
  | a :: l, b :: m, ⟨h1, h2⟩ => by
    refine ⟨fun i => ?_, frames_keep hs h2⟩
    rcases find_keepT (asg := []) (gone := gone) (i := i) (l := a) with h0 | ⟨g1, _, g3⟩
    · rw [h0]; exact trivial
    · rw [g1]; exact hs _ _ g3 (h1 i)
theorem merge {σ : St} {n' : Nat} {tk asg gone : List Nat} {ρx : List (Nat × Root)} {xt : List (Nat × SV)} (hi : Inv C I β F σ w tm) (hW : Within C C' I F w tk) (hpres : ∀ r ∈ tk, ∃ R, look σ.r r = some R) (hm : Room C' I' w')
    (hx : ∀ k R, look ρx k = some R → Kept C' I' w' (β' k) R (F' k) ∧ RootR (hpOf w') C.L I' (β' k) R (F' k) ∧ RootH (hpOf w') β' ρx (β' k) R)
    (hxh : ∀ k R, look ρx k = some R → ∀ j, R.holes j = true → look ρx j ≠ none)
    (hfree : ∀ k R, k ∉ tk → look σ.r k = some R → ∀ j, R.holes j = true → j ∉ tk ∧ look ρx j = none)
    (hdj : ∀ k k' R R', k ≠ k' → look ρx k = some R → look ρx k' = some R' → ∀ b ∈ F' k, b ∉ F' k')
    (hxt : ∀ i sv, (i, sv) ∈ xt → SVR (hpOf w') C.L I' β' ρx sv (tm'.getD i undef) ∧ ∀ r, sv.uses r = true → look ρx r ≠ none)
    (hg : ∀ r R, look σ.r r = some R → r ∉ gone → (r ∉ tk ∧ look ρx r = none) ∨ ∃ R', look ρx r = some R' ∧ R.like R' ∧ β' r = β r)
    (hgn : ∀ r, look σ.r r = none → r ∉ gone → look ρx r = none)
    (htm : ∀ i, natMem i asg = false → tm'.getD i undef = tm.getD i undef) (hsz : tm'.size = n') :
    Inv C I' (pickF ρx β' β) (pickF ρx F' F) { t := appT xt (keepT asg gone σ.t), c := [], r := appR ρx (delAll tk σ.r), n := n', b := σ.b, k := keepKs gone σ.k } w' tm' := by
  have hfr : ∀ b, b < w.heap.size → (∀ r ∈ tk, b ∉ F r) → hpOf w' b = hpOf w b := fun b h1 h2 => by
    rw [hm.frame b (by rw [hW.n]; exact h1) (fun hX => by obtain ⟨r, hr, hb⟩ := (hW.X b).1 hX; exact h2 r hr hb), hW.h]
  have hXown : ∀ b, C'.X b → ¬ I b ∧ ¬ C.L b ∧ b < w.heap.size ∧ (C.X b ∨ C.n ≤ b) := fun b hX => by
    obtain ⟨r, hr, hb⟩ := (hW.X b).1 hX
    obtain ⟨R, hR⟩ := hpres r hr
    exact hi.own r R hR b hb
  have hI : ∀ b, I b → I' b ∧ hpOf w' b = hpOf w b := fun b hb => ⟨hm.sub b (by rw [hW.I]; exact hb), hfr b (hi.shared b hb).1 (fun r hr hbr => by
    obtain ⟨R, hR⟩ := hpres r hr
    exact (hi.own r R hR b hbr).1 hb)⟩
  have hL : ∀ b, C.L b → hpOf w' b = hpOf w b := fun b hb => hfr b (Nat.lt_of_lt_of_le (C.Lok b hb).1 hi.grow) (fun r hr hbr => by
    obtain ⟨R, hR⟩ := hpres r hr
    exact (hi.own r R hR b hbr).2.1 hb)
  have hlx : ∀ {k R}, look ρx k = some R → look (appR ρx (delAll tk σ.r)) k = some R := fun {k R} h => by rw [look_appR, h]
  have hlo : ∀ {k}, look ρx k = none → k ∉ tk → look (appR ρx (delAll tk σ.r)) k = look σ.r k := fun {k} h1 h2 => by
    rw [look_appR, h1]; simp only [look_delAll, h2, if_false]
  have hlook : ∀ {k R}, look (appR ρx (delAll tk σ.r)) k = some R → look ρx k = some R ∨ (look ρx k = none ∧ k ∉ tk ∧ look σ.r k = some R) := by
    intro k R h
    rw [look_appR] at h
    cases hq : look ρx k with
    | some R' => rw [hq] at h; exact .inl h
    | none =>
      rw [hq] at h
      simp only [look_delAll] at h
      by_cases hk : k ∈ tk
      · simp [hk] at h
      · simp only [hk, if_false] at h
        exact .inr ⟨rfl, hk, h⟩
  have hsx : ∀ {j}, look ρx j ≠ none → Same β' (pickF ρx β' β) ρx (appR ρx (delAll tk σ.r)) j := by
    intro j hj
    cases hq : look ρx j with
    | none => exact (hj hq).elim
    | some R => simp only [Same, hlx hq, hq, pickF]; exact ⟨Root.like.refl R, by simp⟩
  have hso : ∀ {j}, j ∉ tk → look ρx j = none → Same β (pickF ρx β' β) σ.r (appR ρx (delAll tk σ.r)) j := by
    intro j h1 h2
    simp only [Same, hlo h2 h1, pickF, h2]
    exact ⟨LikeO.refl _, by simp⟩
  have hlift : ∀ b, ¬ I' b ∧ ¬ C'.L b ∧ b < w'.heap.size ∧ (C'.X b ∨ C'.n ≤ b) → ¬ I' b ∧ ¬ C.L b ∧ b < w'.heap.size ∧ (C.X b ∨ C.n ≤ b) := by
    rintro b ⟨h1, h2, h3, h4⟩
    refine ⟨h1, fun h => h2 (hW.L b h), h3, ?_⟩
    rcases h4 with h4 | h4
    · exact (hXown b h4).2.2.2
    · rw [hW.n] at h4; exact .inr (Nat.le_trans hi.grow h4)
  have hkept : ∀ k R, k ∉ tk → look σ.r k = some R → ∀ b ∈ F k, ¬ I' b ∧ ¬ C'.X b ∧ b < w.heap.size ∧ hpOf w' b = hpOf w b := by
    intro k R hk hl b hb
    have h1 := hi.own k R hl b hb
    have h2 : ∀ r ∈ tk, b ∉ F r := fun r hr hbr => by
      obtain ⟨R', hR'⟩ := hpres r hr
      exact hi.disj k r R R' (by rintro rfl; exact hk hr) hl hR' b hb hbr
    refine ⟨fun hI' => ?_, fun hX => ?_, h1.2.2.1, hfr b h1.2.2.1 h2⟩
    · rcases (hm.shared b hI').2 with h | h | h
      · rw [hW.I] at h; exact h1.1 h
      · obtain ⟨r, hr, hbr⟩ := (hW.X b).1 h; exact h2 r hr hbr
      · rw [hW.n] at h; omega
    · obtain ⟨r, hr, hbr⟩ := (hW.X b).1 hX; exact h2 r hr hbr
  have hold : ∀ sv v, usesAny gone sv = false → SVR (hpOf w) C.L I β σ.r sv v → SVR (hpOf w') C.L I' (pickF ρx β' β) (appR ρx (delAll tk σ.r)) sv v := by
    intro sv v hu hs
    refine SVR.mono hI hL (fun r hr => ?_) hs
    have hrg := usesAny_mem hu r hr
    cases hl : look σ.r r with
    | none =>
      have h1 := hgn r hl hrg
      have h2 : r ∉ tk := fun h => by obtain ⟨R, hR⟩ := hpres r h; rw [hR] at hl; cases hl
      exact hso h2 h1
    | some R =>
      rcases hg r R hl hrg with ⟨g1, g2⟩ | ⟨R', g1, g2, g3⟩
      · exact hso g1 g2
      · simp only [Same, hl, hlx g1, pickF, g1]
        exact ⟨g2, fun _ => g3⟩
  constructor
  case size => exact hsz
  case slots =>
    intro i
    simp only
    rcases find_appT (i := i) (a := xt) (b := keepT asg gone σ.t) with ⟨sv, h1, h2⟩ | h
    · rw [h2]
      obtain ⟨g1, g2⟩ := hxt i sv h1
      exact SVR.mono (fun b hb => ⟨hb, rfl⟩) (fun _ _ => rfl) (fun r hr => hsx (g2 r hr)) g1
    · rw [h]
      rcases find_keepT (asg := asg) (gone := gone) (i := i) (l := σ.t) with h0 | ⟨h1, h2, h3⟩
      · rw [h0]; exact trivial
      · rw [h1, htm i h2]
        exact hold _ _ h3 (hi.slots i)
  case conds => intro k e u v h; simp at h
  case undefs => intro k e u v h; simp at h
  case roots =>
    intro k R h
    rcases hlook h with h | ⟨h1, h2, h3⟩
    · simp only [pickF, h]; exact (hx k R h).2.1
    · simp only [pickF, h1]
      exact (hi.roots k R h3).keep hI hL (fun b hb => (hkept k R h2 h3 b hb).2.2.2)
  case holes =>
    intro k R h
    rcases hlook h with h | ⟨h1, h2, h3⟩
    · have e : pickF ρx β' β k = β' k := by simp only [pickF, h]
      rw [e]
      exact (hx k R h).2.2.keep (fun _ _ => rfl) (hx k R h).2.1 (fun j hj => hsx (hxh k R h j hj))
    · have e : pickF ρx β' β k = β k := by simp only [pickF, h1]
      rw [e]
      exact (hi.holes k R h3).keep (fun b hb => (hkept k R h2 h3 b hb).2.2.2) (hi.roots k R h3) (fun j hj => by
        obtain ⟨g1, g2⟩ := hfree k R h2 h3 j hj
        exact hso g1 g2)
  case nodup =>
    intro k R h
    rcases hlook h with h | ⟨h1, h2, h3⟩
    · simp only [pickF, h]; exact (hx k R h).1.nodup
    · simp only [pickF, h1]; exact hi.nodup k R h3
  case disj =>
    intro k k' R R' hne h h' b hb hb'
    rcases hlook h with h | ⟨h1, h2, h3⟩ <;> rcases hlook h' with h' | ⟨h1', h2', h3'⟩
    · simp only [pickF, h] at hb; simp only [pickF, h'] at hb'; exact hdj k k' R R' hne h h' b hb hb'
    · simp only [pickF, h] at hb; simp only [pickF, h1'] at hb'
      rcases ((hx k R h).1.own b hb).2.2.2 with g | g
      · exact (hkept k' R' h2' h3' b hb').2.1 g
      · rw [hW.n] at g; have := (hkept k' R' h2' h3' b hb').2.2.1; omega
    · simp only [pickF, h1] at hb; simp only [pickF, h'] at hb'
      rcases ((hx k' R' h').1.own b hb').2.2.2 with g | g
      · exact (hkept k R h2 h3 b hb).2.1 g
      · rw [hW.n] at g; have := (hkept k R h2 h3 b hb).2.2.1; omega
    · simp only [pickF, h1] at hb; simp only [pickF, h1'] at hb'; exact hi.disj k k' R R' hne h3 h3' b hb hb'
  case own =>
    intro k R h b hb
    rcases hlook h with h | ⟨h1, h2, h3⟩
    · simp only [pickF, h] at hb; exact hlift b ((hx k R h).1.own b hb)
    · simp only [pickF, h1] at hb
      have g := hi.own k R h3 b hb
      have g2 := hkept k R h2 h3 b hb
      exact ⟨g2.1, g.2.1, Nat.lt_of_lt_of_le g.2.2.1 (by rw [← hW.n]; exact hm.grow), g.2.2.2⟩
  case shared =>
    intro b hb
    obtain ⟨h1, h2⟩ := hm.shared b hb
    refine ⟨h1, ?_⟩
    rcases h2 with h2 | h2 | h2
    · rw [hW.I] at h2; exact (hi.shared b h2).2
    · exact .inr (hXown b h2).2.2.2
    · rw [hW.n] at h2; exact .inr (.inr (Nat.le_trans hi.grow h2))
  case sub => intro b hb; exact (hI b (hi.sub b hb)).1
  case frame =>
    intro b hb hX
    rw [hfr b (Nat.lt_of_lt_of_le hb hi.grow) (fun r hr hbr => ?_)]
    · exact hi.frame b hb hX
    · obtain ⟨R, hR⟩ := hpres r hr
      rcases (hi.own r R hR b hbr).2.2.2 with h | h
      · exact hX h
      · omega
  case grow => exact Nat.le_trans hi.grow (by rw [← hW.n]; exact hm.grow)
  case rest => rw [hm.rest, hW.z]; exact hi.rest
  case frames => exact frames_keep hold hi.frames
end
theorem lentV_mem {σ : St} {τ : Ty} {sv : SV} {a : den τ} {m : List Nat} (he : lentV σ τ sv = some (a, m)) : ∀ r ∈ m, look σ.r r ≠ none := by
  have other : (match toV true τ sv with | some y => some (y, ([] : List Nat)) | none => none) = some (a, m) → ∀ r ∈ m, look σ.r r ≠ none := by
    intro h
    cases ht : toV true τ sv with
    | none => simp [ht] at h
    | some y =>
      simp only [ht, Option.some.injEq, Prod.mk.injEq] at h
      obtain ⟨_, rfl⟩ := h
      simp
  have el : ∀ {u : Ty} {r : Nat} {q : Bool × List (den u)}, (elems σ u (.sf r) = some q ∨ ∃ lo n, elems σ u (.s r lo n) = some q) → look σ.r r ≠ none := by
    rintro u r q (h | ⟨lo, n, h⟩) hn
    · simp [elems, hn] at h
    · simp [elems, hn] at h
  cases sv with
  | sf r =>
    simp only [lentV] at he
    split at he
    · rename_i o u
      cases hq : elems σ u (.sf r) with
      | none => simp [hq] at he
      | some q =>
        obtain ⟨l', ys⟩ := q
        simp only [hq, Option.some.injEq, Prod.mk.injEq] at he
        obtain ⟨_, rfl⟩ := he
        intro k hk
        simp at hk
        subst hk
        exact el (.inl hq)
    · simp at he
  | s r lo n =>
    simp only [lentV] at he
    split at he
    · rename_i o u
      cases hq : elems σ u (.s r lo n) with
      | none => simp [hq] at he
      | some q =>
        obtain ⟨l', ys⟩ := q
        simp only [hq, Option.some.injEq, Prod.mk.injEq] at he
        obtain ⟨_, rfl⟩ := he
        intro k hk
        simp at hk
        subst hk
        exact el (.inr ⟨_, _, hq⟩)
    · simp at he
  | q l t b =>
    simp only [lentV] at he
    split at he
    · split at he
      · simp only [Option.some.injEq, Prod.mk.injEq] at he; obtain ⟨_, rfl⟩ := he; simp
      · simp at he
    · split at he
      · simp only [Option.some.injEq, Prod.mk.injEq] at he; obtain ⟨_, rfl⟩ := he; simp
      · simp at he
    · simp at he
  | p r s =>
    have fin : ∀ {t : Ty} {x : den t} {t' : Ty} {x' : den t'} {m' : List Nat} {R : Root}, look σ.r r = some R → fullT (fullR σ.r true 9) t x = some ⟨t', x', m'⟩ → ∀ k ∈ r :: m', look σ.r k ≠ none := by
      intro t x t' x' m' R hl hf k hk
      rcases List.mem_cons.1 hk with rfl | hk
      · rw [hl]; simp
      · exact fullT_mem (fun k u y m => fullR_mem 9 k u y m) hf k hk
    simp only [lentV] at he
    split at he
    · split at he
      · rename_i R hl
        split at he
        · split at he
          · rename_i hf
            split at he
            · simp only [Option.some.injEq, Prod.mk.injEq] at he
              obtain ⟨_, rfl⟩ := he
              exact fin hl hf
            · simp at he
          · simp at he
        · simp at he
      · simp at he
    · split at he
      · rename_i R hl
        split at he
        · split at he
          · rename_i hf
            split at he
            · simp only [Option.some.injEq, Prod.mk.injEq] at he
              obtain ⟨_, rfl⟩ := he
              exact fin hl hf
            · simp at he
          · simp at he
        · simp at he
      · simp at he
    · simp at he
  | mp r =>
    simp only [lentV] at he
    split at he
    · rename_i hf
      split at he
      · split at he
        · simp only [Option.some.injEq, Prod.mk.injEq] at he
          obtain ⟨_, rfl⟩ := he
          exact fullR_mem 9 r _ _ _ hf
        · simp at he
      · simp at he
    · simp at he
  | v l t b =>
    simp only [lentV] at he
    split at he
    · rename_i hf
      split at he
      · simp only [Option.some.injEq, Prod.mk.injEq] at he
        obtain ⟨_, rfl⟩ := he
        exact fullT_mem (fun k u y m => fullR_mem 9 k u y m) hf
      · simp at he
    · simp at he
  | nl => exact other (by unfold lentV at he; exact he)
  | np => exact other (by unfold lentV at he; exact he)
  | x => simp [lentV, toV] at he
  | tup _ => simp [lentV, toV] at he
  | fn _ _ _ => simp [lentV, toV] at he
section
variable {C : Ctx} {I : Set'} {β : Nat → Value} {F : Nat → List Nat} {w : World} {tm : Array Value}
theorem klents_there {σ : St} : ∀ {ks : List KV}, ∀ r ∈ klents σ ks, look σ.r r ≠ none
  | [], r, h => by simp [klents] at h
  | .v s len τ :: l, r, h => by
    simp only [klents] at h
    cases len with
    | false => exact klents_there (ks := l) r h
    | true =>
      simp only at h
      split at h
      · rename_i a m hm
        simp only [appN_eq, List.mem_append] at h
        rcases h with h | h
        · exact lentV_mem hm r h
        · exact klents_there (ks := l) r h
      · exact klents_there (ks := l) r h
  | .q s len τ :: l, r, h => by
    simp only [klents] at h
    cases len with
    | false => exact klents_there (ks := l) r h
    | true =>
      simp only at h
      split at h
      · rename_i a m hm
        simp only [appN_eq, List.mem_append] at h
        rcases h with h | h
        · exact lentV_mem hm r h
        · exact klents_there (ks := l) r h
      · exact klents_there (ks := l) r h
  | .c s sv :: l, r, h => klents_there (ks := l) r h
theorem extractK_pin {σ : St} : ∀ {ks : List KV} {kv : denL (ktys ks)}, extractK σ ks = some kv → pinOk σ ks = true
  | [], _, _ => rfl
  | .v s len τ :: l, kv, h => by
    simp only [extractK] at h
    split at h
    · rename_i h2; exact extractK_pin (ks := l) h2
    · cases h
  | .q s len τ :: l, kv, h => by
    simp only [extractK] at h
    split at h
    · rename_i h2; exact extractK_pin (ks := l) h2
    · cases h
  | .c s sv :: l, kv, h => by
    simp only [extractK] at h
    split at h
    · rename_i h1 h2
      simp only [pinOk, h1, extractK_pin (ks := l) h2, Bool.and_self]
    · cases h
theorem extractK_kf {C' : Ctx} {σ : St} (hi : Inv C C'.I β F σ w tm) (hh : C'.h = hpOf w) (hL : ∀ b, C.L b → C'.L b) : ∀ {ks : List KV} {kv : denL (ktys ks)}, (∀ r ∈ klents σ ks, ∀ b ∈ F r, C'.L b) → extractK σ ks = some kv → KF C' tm ks kv
  | [], _, _, _ => trivial
  | .v s len τ :: l, (a, kv), hl, h => by
    simp only [extractK] at h
    split at h
    · rename_i a' r h1 h2
      cases h
      simp only [klents] at hl
      cases len with
      | true =>
        try simp only at h1
        try simp only at hl
        split at h1
        · rename_i a2 m hm
          obtain rfl := Option.some.inj h1
          rw [hm] at hl
          simp only [appN_eq, List.mem_append] at hl
          refine ⟨?_, extractK_kf hi hh hL (ks := l) (fun r hr => hl r (.inr hr)) h2⟩
          rw [hh]
          exact lentV_ok hi (L1 := C'.L) (I2 := C'.I) (hi.slots s) hm hL (fun r hr => hl r (.inl hr)) (fun _ h => h)
        · cases h1
      | false =>
        try simp only at h1
        try simp only at hl
        refine ⟨?_, extractK_kf hi hh hL (ks := l) hl h2⟩
        rw [hh]
        obtain ⟨cs, e1, e2⟩ := toV_ok h1 (hi.slots s)
        exact ⟨cs, e1.wide (Sx.up hL (fun _ h => h) (fun h => h)), e2⟩
    · cases h
  | .q s len τ :: l, (a, kv), hl, h => by
    simp only [extractK] at h
    split at h
    · rename_i a' r h1 h2
      cases h
      simp only [klents] at hl
      cases len with
      | true =>
        try simp only at h1
        try simp only at hl
        split at h1
        · rename_i a2 m hm
          obtain rfl := Option.some.inj h1
          rw [hm] at hl
          simp only [appN_eq, List.mem_append] at hl
          refine ⟨?_, extractK_kf hi hh hL (ks := l) (fun r hr => hl r (.inr hr)) h2⟩
          rw [hh]
          obtain ⟨cs, e1, e2⟩ := lentV_ok hi (τ := .ref false τ) (L1 := C'.L) (I2 := C'.I) (hi.slots s) hm hL (fun r hr => hl r (.inl hr)) (fun _ h => h)
          obtain ⟨v0, rfl⟩ : ∃ v0, cs = [v0] := by have := e1.len; simp [Ty.size] at this; exact List.length_eq_one_iff.1 this
          simp only [wrapV, Ty.isAgg, Bool.false_eq_true, if_false, List.headD_cons] at e2
          rw [e2]; exact e1
        · cases h1
      | false =>
        try simp only at h1
        try simp only at hl
        refine ⟨?_, extractK_kf hi hh hL (ks := l) hl h2⟩
        rw [hh]
        split at h1
        · rename_i t b hf
          obtain ⟨rfl, hx⟩ := cast?_some h1
          have := eq_of_heq hx
          subst this
          have := hi.slots s
          rw [hf] at this
          exact Rep.wide (Sx.up hL (fun _ h => h) (fun h => h)) this
        · cases h1
    · cases h
  | .c s sv :: l, (a, kv), hl, h => by
    simp only [extractK] at h
    split at h
    · rename_i h1 h2
      cases h
      exact extractK_kf hi hh hL (ks := l) hl h2
    · cases h
theorem taken_there {σ : St} {xs : List LV} {xv : denL (xtys xs)} (hE : Exts σ xs xv) : ∀ r ∈ takenNames σ xs, ∃ R, look σ.r r = some R := by
  intro r hr
  obtain ⟨x, hx, hk⟩ := taken_mem hr
  have : ∀ {xs : List LV} {xv : denL (xtys xs)}, Exts σ xs xv → x ∈ xs → ∃ R, look σ.r r = some R := by
    intro xs
    induction xs with
    | nil => intro _ _ h; simp at h
    | cons z l ih =>
      rintro ⟨za, xv⟩ ⟨z1, z2⟩ hm
      rcases List.mem_cons.1 hm with rfl | hm
      · cases x with
        | t _ _ _ => cases hk
        | r n _ _ _ => obtain ⟨_, _, _, h, _⟩ := z1; obtain rfl := Option.some.inj hk; exact ⟨_, h⟩
        | a n _ _ => obtain ⟨_, _, h, _⟩ := z1; obtain rfl := Option.some.inj hk; exact ⟨_, h⟩
        | m n _ _ _ => obtain ⟨_, h, _⟩ := z1; obtain rfl := Option.some.inj hk; exact ⟨_, h⟩
        | o s n _ _ =>
          rcases z1 with ⟨j, f, l', h0, h1, _⟩ | ⟨h0, _⟩
          · simp only [LV.src, h0, Option.some.injEq] at hk
            subst hk; exact ⟨_, h1⟩
          · simp [LV.src, h0] at hk
      · exact ih z2 hm
  exact this hE hx
structure CutOk (σ : St) (asg : List Nat) (c : Cut) : Prop where
  fit : holesFit (ramN c.xs) c.xs = true
  sol : ksSolid c.ks = true
  tk : (takenNames σ c.xs).Nodup
  lent : ∀ k ∈ takenNames σ c.xs, k ∉ klents σ c.ks
  nm : (xnames c.xs).Nodup
  sl : (slotsOf c.xs).Nodup ∧ ∀ k ∈ slotsOf c.xs, k ∉ kslotsOf c.ks
  ks : (kslotsOf c.ks).Nodup ∧ ∀ k ∈ kslotsOf c.ks, k ∉ asg
  kinds : kindsOk c.xs c.ks = true
  len : klents σ c.ks = [] ∨ noLen c.xs = true
  free : ∀ n, n ∈ xnames c.xs ∨ n ∈ takenNames σ c.xs → freeN n (delAll (takenNames σ c.xs) σ.r) = true
theorem cutOk_ok {σ : St} {asg : List Nat} {c : Cut} (h : cutOk σ asg c = true) : CutOk σ asg c := by
  simp only [cutOk, Bool.and_eq_true] at h
  obtain ⟨⟨⟨⟨⟨⟨⟨⟨⟨h1, h2⟩, h3⟩, h4⟩, h5⟩, h6⟩, h7⟩, h8⟩, h9⟩, h10⟩ := h
  refine ⟨h1, h2, (apart_iff h3).1, (apart_iff h3).2, (apart_iff h4).1, apart_iff h5, apart_iff h6, h8, ?_, fun n hn => freeAll_ok h10 n (by simp only [appN_eq, List.mem_append]; exact hn)⟩
  simp only [Bool.or_eq_true] at h9
  rcases h9 with h | h
  · left
    cases hq : klents σ c.ks with
    | nil => rfl
    | cons _ _ => rw [hq] at h; cases h
  · exact .inr h
theorem enter {σ : St} {c : Cut} {asg : List Nat} {kv : denL (ktys c.ks)} {xv : denL (xtys c.xs)} (hi : Inv C I β F σ w tm) (hc : CutOk σ asg c) (hk : extractK σ c.ks = some kv) (hx : extract σ c.xs = some xv) :
    ∃ C' : Ctx, C'.P = C.P ∧ C'.T = C.T ∧ C'.G = C.G ∧ C'.tk = [] ∧ Within C C' I F w (takenNames σ c.xs) ∧ (klents σ c.ks = [] → ∀ b, C'.L b → C.L b) ∧ KF C' tm c.ks kv ∧ Inv C' I (srcB β tm c.xs) (srcF σ F c.xs) (fill σ.n σ.b c.ks kv c.xs xv) w tm := by
  have hE := extract_exts hx
  have hpres := taken_there hE
  have hlp : ∀ r ∈ klents σ c.ks, ∃ R, look σ.r r = some R := fun r hr => by
    cases hl : look σ.r r with
    | none => exact (klents_there r hr hl).elim
    | some R => exact ⟨R, rfl⟩
  have hXown : ∀ b, (∃ r ∈ takenNames σ c.xs, b ∈ F r) → ¬ I b ∧ ¬ C.L b ∧ b < w.heap.size ∧ (C.X b ∨ C.n ≤ b) := by
    rintro b ⟨r, hr, hb⟩
    obtain ⟨R, hR⟩ := hpres r hr
    exact hi.own r R hR b hb
  have hsep : ∀ r ∈ takenNames σ c.xs, ∀ b ∈ F r, ∀ r' ∈ klents σ c.ks, b ∉ F r' := by
    intro r hr b hb r' hr'
    obtain ⟨R, hR⟩ := hpres r hr
    obtain ⟨R', hR'⟩ := hlp r' hr'
    exact hi.disj r r' R R' (by rintro rfl; exact hc.lent r hr hr') hR hR' b hb
  let C' : Ctx := { P := C.P, T := C.T, h := hpOf w, n := w.heap.size, L := fun b => C.L b ∨ ∃ r ∈ klents σ c.ks, b ∈ F r, I := I, X := fun b => ∃ r ∈ takenNames σ c.xs, b ∈ F r, z := restOf w, G := C.G, tk := []
                    Iok := fun b hb => ⟨(hi.shared b hb).1, fun hX => (hXown b hX).1 hb⟩
                    Lok := fun b hb => by
                      rcases hb with hb | ⟨r, hr, hb⟩
                      · exact ⟨Nat.lt_of_lt_of_le (C.Lok b hb).1 hi.grow, fun hX => (hXown b hX).2.1 hb⟩
                      · obtain ⟨R, hR⟩ := hlp r hr
                        exact ⟨(hi.own r R hR b hb).2.2.1, fun ⟨k, hk, hb'⟩ => hsep k hk b hb' r hr hb⟩
                    ok := C.ok
                    eqs := C.eqs
                    zag := C.zag
                    gok := fun g v hg => by
                      refine Rep.keep (fun b hb => ⟨?_, ?_⟩) (by simp) (C.gok g v hg)
                      · rcases hb with hb | ⟨_, hb⟩
                        · exact .inl (hi.sub b hb)
                        · exact .inr ⟨rfl, .inl hb⟩
                      · rcases hb with hb | ⟨_, hb⟩
                        · exact hi.frame b (C.Iok b hb).1 (C.Iok b hb).2
                        · exact hi.frame b (C.Lok b hb).1 (C.Lok b hb).2 }
  have hW : Within C C' I F w (takenNames σ c.xs) := ⟨rfl, rfl, rfl, fun b hb => .inl hb, fun b => Iff.rfl, rfl, rfl⟩
  have hLL : ∀ b, C.L b → C'.L b := fun b hb => Or.inl hb
  have hKF : KF C' tm c.ks kv := extractK_kf (C' := C') hi rfl hLL (fun r hr b hb => Or.inr ⟨r, hr, hb⟩) hk
  refine ⟨C', rfl, rfl, rfl, rfl, hW, fun he b hb => ?_, hKF, ?_⟩
  · rcases hb with hb | ⟨r, hr, _⟩
    · exact hb
    · rw [he] at hr; simp at hr
  · refine fill_inv (C := C') (σ := σ) (F := F) ⟨fun b hb => ⟨(hi.shared b hb).1, .inl hb⟩, fun _ h => h, fun b _ _ => rfl, Nat.le_refl _, rfl⟩ rfl ?_ hE hc.nm hc.tk (extractK_pin hk) hKF hc.kinds hc.fit hc.sol hi.size
    have wid : ∀ {l : Bool} b, Sx C.L I l b → Sx C'.L I l b ∧ hpOf w b = hpOf w b := fun b hb => ⟨Sx.up hLL (fun _ h => h) (fun h => h) b hb, rfl⟩
    refine ⟨fun r hr R hl => ?_, fun r hr R hl => hi.holes r R hl, fun r hr r' hr' R R' hne h h' => hi.disj r r' R R' hne h h', fun i => ?_⟩
    · have hR := hi.roots r R hl
      refine ⟨?_, hi.nodup r R hl, fun b hb => ?_⟩
      · cases R with
        | box l t a => exact Rep.keep wid (fun _ _ => rfl) hR
        | arr f l t a => exact ⟨Rep.keep wid (fun _ _ => rfl) hR.1, hR.2⟩
        | map l k v es z =>
          obtain ⟨b, ents, clock, X', g1, g2, g3, g4, g5⟩ := hR
          exact ⟨b, ents, clock, X', g1, g2, g3, RMz.mono_mem (fun _ _ => Rep.keep wid (fun _ _ => rfl)) (fun _ _ _ _ => Rep.keep wid (fun _ _ => rfl)) g4, g5⟩
      · have h1 := hi.own r R hl b hb
        refine ⟨h1.1, fun hL => ?_, h1.2.2.1, .inl ⟨r, hr, hb⟩⟩
        rcases hL with hL | ⟨k, hk, hb'⟩
        · exact h1.2.1 hL
        · exact hsep r hr b hb k hk hb'
    · have h0 := hi.slots i
      have w0 : ∀ {sv v}, SVR0 (hpOf w) C.L I β σ.r sv v → SVR0 (hpOf w) C'.L I β σ.r sv v := by
        intro sv v hs
        cases sv with
        | v len t a => obtain ⟨cs, g1, g2, g3⟩ := hs; exact ⟨cs, Rep.keep wid (by simp) g1, g2, g3⟩
        | q len t a => exact Rep.keep wid (by simp) hs
        | _ => exact hs
      cases hq : find σ.t i with
      | fn f a b =>
        rw [hq] at h0
        obtain ⟨us, vs, hv, g1, g2⟩ := h0
        exact ⟨us, vs, hv, g1.imp (fun _ _ _ h => w0 h), g2.imp (fun _ _ _ h => w0 h)⟩
      | tup l =>
        rw [hq] at h0
        obtain ⟨vs, hv, g1⟩ := h0
        exact ⟨vs, hv, g1.imp (fun _ _ _ h => w0 h)⟩
      | v l t a => rw [hq] at h0; exact w0 (sv := .v l t a) h0
      | q l t a => rw [hq] at h0; exact w0 (sv := .q l t a) h0
      | x => trivial
      | np => rw [hq] at h0; exact h0
      | nl => rw [hq] at h0; exact h0
      | p _ _ => rw [hq] at h0; exact h0
      | sf _ => rw [hq] at h0; exact h0
      | s _ _ _ => rw [hq] at h0; exact h0
      | mp _ => rw [hq] at h0; exact h0
end
end Go.Proofs.YthlpjdjipchdkaaDoor.E

namespace Go.Proofs.YthlpjdjipchdkaaDoor.E
open Go
set_option linter.unusedSimpArgs false
set_option linter.unusedVariables false
theorem find_of_nodup {i : Nat} {sv : SV} : ∀ {l : List (Nat × SV)}, (l.map (·.1)).Nodup → (i, sv) ∈ l → find l i = sv
  | (k, v) :: l, hn, h => by
    simp only [List.map_cons, List.nodup_cons] at hn
    simp only [find]
    rcases List.mem_cons.1 h with h | h
    · simp only [Prod.mk.injEq] at h
      obtain ⟨rfl, rfl⟩ := h
      simp
    · rw [nbeq (fun e => hn.1 (by rw [e]; exact List.mem_map.2 ⟨_, h, rfl⟩))]
      exact find_of_nodup hn.2 h
theorem appT_map : ∀ {a b : List (Nat × SV)}, (appT a b).map (·.1) = a.map (·.1) ++ b.map (·.1)
  | [], b => rfl
  | p :: a, b => by simp [appT, appT_map (a := a)]
theorem xslots_keys : ∀ (xs : List LV) (xv : denL (xtys xs)), (xslots xs xv).map (·.1) = slotsOf xs
  | [], _ => rfl
  | .t _ _ _ :: l, (_, r) => by simp [xslots, slotsOf, xslots_keys l r]
  | .o _ _ _ _ :: l, (_, r) => by simp [xslots, slotsOf, xslots_keys l r]
  | .r _ _ _ _ :: l, (_, r) => xslots_keys l r
  | .a _ _ _ :: l, (_, r) => xslots_keys l r
  | .m _ _ _ _ :: l, (_, r) => xslots_keys l r
theorem kslots_keys : ∀ (ks : List KV) (kv : denL (ktys ks)), (kslots ks kv).map (·.1) = kslotsOf ks
  | [], _ => rfl
  | .v _ _ _ :: l, (_, r) => by simp [kslots, kslotsOf, kslots_keys l r]
  | .q _ _ _ :: l, (_, r) => by simp [kslots, kslotsOf, kslots_keys l r]
  | .c _ _ :: l, (_, r) => by simp [kslots, kslotsOf, kslots_keys l r]
theorem mem_without {n : Nat} : ∀ {l m : List Nat}, n ∈ l → n ∉ without l m → n ∈ m
  | [], _, h, _ => by simp at h
  | k :: l, m, h, hn => by
    simp only [without] at hn
    cases hb : natMem k m with
    | true =>
      rw [hb] at hn
      rcases List.mem_cons.1 h with rfl | h
      · exact natMem_iff.1 hb
      · exact mem_without h hn
    | false =>
      rw [hb] at hn
      simp only [List.mem_cons, not_or] at hn
      rcases List.mem_cons.1 h with rfl | h
      · exact (hn.1 rfl).elim
      · exact mem_without h hn.2
theorem mem_names {n : Nat} {a b m : List Nat} (h : n ∉ without (appN a b) m) : (n ∉ a ∧ n ∉ b) ∨ n ∈ m := by
  by_cases h1 : n ∈ appN a b
  · exact .inr (mem_without h1 h)
  · left
    rw [mem_appN] at h1
    exact ⟨fun h => h1 (.inl h), fun h => h1 (.inr h)⟩
theorem pins_mem {n : Nat} : ∀ {ks : List KV}, n ∈ pins ks → ∃ s sv, KV.c s sv ∈ ks ∧ n ∈ namesOf sv
  | .c s sv :: l, h => by
    simp only [pins, appN_eq, List.mem_append] at h
    rcases h with h | h
    · exact ⟨s, sv, by simp, h⟩
    · obtain ⟨s', sv', h1, h2⟩ := pins_mem h; exact ⟨s', sv', by simp [h1], h2⟩
  | .v _ _ _ :: l, h | .q _ _ _ :: l, h => by obtain ⟨s', sv', h1, h2⟩ := pins_mem (ks := l) h; exact ⟨s', sv', by simp [h1], h2⟩
theorem boxSV0_bound {xs : List LV} {sv : SV} (hk : kindOk0 xs sv = true) (hb : boxSV0 sv = true) : ∀ r ∈ namesOf0 sv, ∃ len τ τr, LV.r r len τ τr ∈ xs := by
  intro r hr
  unfold boxSV0 at hb
  split at hb
  · simp [namesOf0] at hr; subst hr; exact hasR_mem hk
  · simp [namesOf0] at hr; subst hr; exact hasR_mem hk
  · cases hb
theorem boxSVL_bound {xs : List LV} : ∀ {l : List SV}, kindOkL xs l = true → boxSVL l = true → ∀ r ∈ namesOfL l, ∃ len τ τr, LV.r r len τ τr ∈ xs
  | [], _, _, r, hr => by simp [namesOfL] at hr
  | a :: l, hk, hb, r, hr => by
    simp only [kindOkL, Bool.and_eq_true] at hk
    simp only [boxSVL, Bool.and_eq_true] at hb
    simp only [namesOfL, appN_eq, List.mem_append] at hr
    rcases hr with hr | hr
    · exact boxSV0_bound hk.1 hb.1 r hr
    · exact boxSVL_bound hk.2 hb.2 r hr
theorem boxSV_bound {xs : List LV} {sv : SV} (hk : kindOk xs sv = true) (hb : boxSV sv = true) : ∀ r ∈ namesOf sv, ∃ len τ τr, LV.r r len τ τr ∈ xs := by
  intro r hr
  cases sv with
  | fn f a b =>
    simp only [kindOk, Bool.and_eq_true] at hk
    simp only [boxSV, Bool.and_eq_true] at hb
    simp only [namesOf, appN_eq, List.mem_append] at hr
    rcases hr with hr | hr
    · exact boxSVL_bound hk.1 hb.1 r hr
    · exact boxSVL_bound hk.2 hb.2 r hr
  | _ => exact boxSV0_bound (by simpa [kindOk] using hk) (by simpa [boxSV] using hb) r (by simpa [namesOf] using hr)
theorem boxSV0_kind {ρ : List (Nat × Root)} {sv : SV} (hb : boxSV0 sv = true) (h : ∀ r ∈ namesOf0 sv, ∃ l t a, look ρ r = some (.box l t a)) : KindIn ρ sv := by
  unfold boxSV0 at hb
  split at hb
  · exact h _ (by simp [namesOf0])
  · exact h _ (by simp [namesOf0])
  · cases hb
theorem boxSVL_kind {ρ : List (Nat × Root)} : ∀ {l : List SV}, boxSVL l = true → (∀ r ∈ namesOfL l, ∃ l t a, look ρ r = some (.box l t a)) → KindL ρ l
  | [], _, _ => trivial
  | a :: l, hb, h => by
    simp only [boxSVL, Bool.and_eq_true] at hb
    exact ⟨boxSV0_kind hb.1 fun r hr => h r (by simp [namesOfL, appN_eq, hr]), boxSVL_kind hb.2 fun r hr => h r (by simp [namesOfL, appN_eq, hr])⟩
theorem boxSV_kind {ρ : List (Nat × Root)} {sv : SV} (hb : boxSV sv = true) (h : ∀ r ∈ namesOf sv, ∃ l t a, look ρ r = some (.box l t a)) : Kind ρ sv := by
  cases sv with
  | fn f a b =>
    simp only [boxSV, Bool.and_eq_true] at hb
    exact ⟨boxSVL_kind hb.1 fun r hr => h r (by simp [namesOf, appN_eq, hr]), boxSVL_kind hb.2 fun r hr => h r (by simp [namesOf, appN_eq, hr])⟩
  | _ => exact boxSV0_kind (by simpa [boxSV] using hb) (fun r hr => h r (by simpa [namesOf] using hr))
theorem pinsB_mem {n : Nat} : ∀ {ks : List KV}, n ∈ pinsB ks → ∃ s sv, KV.c s sv ∈ ks ∧ boxSV sv = true ∧ n ∈ namesOf sv
  | .c s sv :: l, h => by
    simp only [pinsB] at h
    cases hb : boxSV sv with
    | true =>
      simp only [hb, appN_eq, List.mem_append] at h
      rcases h with h | h
      · exact ⟨s, sv, by simp, hb, h⟩
      · obtain ⟨s', sv', h1, h2⟩ := pinsB_mem h; exact ⟨s', sv', by simp [h1], h2⟩
    | false =>
      simp only [hb] at h
      obtain ⟨s', sv', h1, h2⟩ := pinsB_mem h; exact ⟨s', sv', by simp [h1], h2⟩
  | .v _ _ _ :: l, h | .q _ _ _ :: l, h => by obtain ⟨s', sv', h1, h2⟩ := pinsB_mem (ks := l) h; exact ⟨s', sv', by simp [h1], h2⟩
theorem kc_slot {s : Nat} {sv : SV} : ∀ {ks : List KV} (kv : denL (ktys ks)), KV.c s sv ∈ ks → (s, sv) ∈ kslots ks kv ∧ s ∈ kslotsOf ks
  | .c k sv' :: l, (_, r), h => by
    rcases List.mem_cons.1 h with h | h
    · cases h; exact ⟨by simp [kslots], by simp [kslotsOf]⟩
    · obtain ⟨h1, h2⟩ := kc_slot r h; exact ⟨by simp [kslots, h1], by simp [kslotsOf, h2]⟩
  | .v _ _ _ :: l, (_, r), h => by
    rcases List.mem_cons.1 h with h | h
    · cases h
    · obtain ⟨h1, h2⟩ := kc_slot (ks := l) r h; exact ⟨by simp [kslots, h1], by simp [kslotsOf, h2]⟩
  | .q _ _ _ :: l, (_, r), h => by
    rcases List.mem_cons.1 h with h | h
    · cases h
    · obtain ⟨h1, h2⟩ := kc_slot (ks := l) r h; exact ⟨by simp [kslots, h1], by simp [kslotsOf, h2]⟩
theorem pinOk_mem {σ : St} {s : Nat} {sv : SV} : ∀ {ks : List KV}, pinOk σ ks = true → KV.c s sv ∈ ks → svSame (find σ.t s) sv = true
  | .c k sv' :: l, hp, h => by
    simp only [pinOk, Bool.and_eq_true] at hp
    rcases List.mem_cons.1 h with h | h
    · cases h; exact hp.1
    · exact pinOk_mem hp.2 h
  | .v _ _ _ :: l, hp, h | .q _ _ _ :: l, hp, h => by
    rcases List.mem_cons.1 h with h | h
    · cases h
    · exact pinOk_mem (ks := l) hp h
theorem pinOkB_mem {σ : St} {s : Nat} {sv : SV} : ∀ {ks : List KV}, pinOkB σ ks = true → KV.c s sv ∈ ks → boxSV sv = true → svSame (find σ.t s) sv = true
  | .c k sv' :: l, hp, h, hb => by
    simp only [pinOkB, Bool.and_eq_true] at hp
    rcases List.mem_cons.1 h with h | h
    · cases h
      have := hp.1
      rw [hb] at this
      simpa using this
    · exact pinOkB_mem hp.2 h hb
  | .v _ _ _ :: l, hp, h, hb | .q _ _ _ :: l, hp, h, hb => by
    rcases List.mem_cons.1 h with h | h
    · cases h
    · exact pinOkB_mem (ks := l) hp h hb
theorem xlook_mem0 : ∀ {xs : List LV} {xv : denL (xtys xs)}, (xnames xs).Nodup → ∀ {x : LV} {k : Nat}, x ∈ xs → x.nm = some k → ∃ a : den x.ty, look (xroots xs xv) k = some (x.root a)
  | [], _, _, x, k, hx, _ => by simp at hx
  | y :: l, (b, xv), hn, x, k, hx, hk => by
    rw [xnames_cons] at hn
    rw [xroots_cons]
    rcases List.mem_cons.1 hx with rfl | hx
    · rw [hk]
      exact ⟨b, look_cons_same⟩
    · have hkl : k ∈ xnames l := by
        have : ∀ {l : List LV}, x ∈ l → k ∈ xnames l := by
          intro l
          induction l with
          | nil => intro h; simp at h
          | cons z l ih =>
            intro h
            rw [xnames_cons]
            rcases List.mem_cons.1 h with rfl | h
            · rw [hk]; simp
            · cases hz : z.nm with
              | none => exact ih h
              | some n => simp [ih h]
        exact this hx
      cases hy : y.nm with
      | none =>
        rw [hy] at hn
        exact xlook_mem0 hn hx hk
      | some n =>
        rw [hy] at hn
        simp only at hn
        obtain ⟨hn1, hn2⟩ := List.nodup_cons.1 hn
        have hne : k ≠ n := by rintro rfl; exact hn1 hkl
        obtain ⟨a, g2⟩ := xlook_mem0 (xv := xv) hn2 hx hk
        exact ⟨a, by rw [look_cons_ne hne]; exact g2⟩
theorem xlook0 : ∀ {xs : List LV} {xv : denL (xtys xs)} {k : Nat} {R : Root}, look (xroots xs xv) k = some R → ∃ x, x ∈ xs ∧ x.nm = some k ∧ ∃ a : den x.ty, R = x.root a
  | [], _, k, R, h => by simp [xroots, look] at h
  | x :: l, (a, xv), k, R, h => by
    rw [xroots_cons] at h
    cases hn : x.nm with
    | none =>
      rw [hn] at h
      obtain ⟨y, h1, h2⟩ := xlook0 h
      exact ⟨y, by simp [h1], h2⟩
    | some n =>
      rw [hn] at h
      simp only at h
      by_cases e : k = n
      · subst e
        rw [look_cons_same] at h
        exact ⟨x, by simp, hn, a, (Option.some.inj h).symm⟩
      · rw [look_cons_ne e] at h
        obtain ⟨y, h1, h2⟩ := xlook0 h
        exact ⟨y, by simp [h1], h2⟩
theorem kind_x0 {xs : List LV} {sv : SV} (hk : kindOk0 xs sv = true) : ∀ r ∈ namesOf0 sv, (∃ len τ τr, LV.r r len τ τr ∈ xs) ∨ (∃ len τ, LV.a r len τ ∈ xs) ∨ ∃ len k v, LV.m r len k v ∈ xs := by
  intro k hr
  unfold kindOk0 at hk
  split at hk
  · simp [namesOf0] at hr; subst hr; exact .inl (hasR_mem hk)
  · simp [namesOf0] at hr; subst hr; exact .inr (.inl (hasA_mem hk))
  · simp [namesOf0] at hr; subst hr; exact .inr (.inr (hasM_mem hk))
  · simp [namesOf0] at hr; subst hr; exact .inl (hasR_mem hk)
  · cases hk
theorem kind_x {xs : List LV} {sv : SV} (hnm : named sv = true) (hk : kindOk xs sv = true) : ∀ r ∈ namesOf sv, (∃ len τ τr, LV.r r len τ τr ∈ xs) ∨ (∃ len τ, LV.a r len τ ∈ xs) ∨ ∃ len k v, LV.m r len k v ∈ xs := by
  have list : ∀ {l : List SV}, kindOkL xs l = true → ∀ r ∈ namesOfL l, (∃ len τ τr, LV.r r len τ τr ∈ xs) ∨ (∃ len τ, LV.a r len τ ∈ xs) ∨ ∃ len k v, LV.m r len k v ∈ xs := by
    intro l
    induction l with
    | nil => intro _ r hr; simp [namesOfL] at hr
    | cons a l ih =>
      intro h r hr
      simp only [kindOkL, Bool.and_eq_true] at h
      simp only [namesOfL, appN_eq, List.mem_append] at hr
      rcases hr with hr | hr
      · exact kind_x0 h.1 r hr
      · exact ih h.2 r hr
  rcases named_fn hnm with ⟨f, a, b, rfl, _, _⟩ | ⟨n1, n2, _⟩
  · simp only [kindOk, Bool.and_eq_true] at hk
    intro r hr
    simp only [namesOf, appN_eq, List.mem_append] at hr
    rcases hr with hr | hr
    · exact list hk.1 r hr
    · exact list hk.2 r hr
  · have e : kindOk0 xs sv = true := by cases sv <;> first | exact hk | exact (n2 _ _ _ rfl).elim
    have := kind_x0 e
    cases sv <;> first | exact this | exact (n2 _ _ _ rfl).elim
theorem kind_in0 {xs : List LV} {xv : denL (xtys xs)} (hn : (xnames xs).Nodup) {sv : SV} (hk : kindOk0 xs sv = true) : KindIn (xroots xs xv) sv := by
  unfold kindOk0 at hk
  split at hk
  · obtain ⟨len, τ, τr, hm⟩ := hasR_mem hk
    obtain ⟨a, h⟩ := xlook_mem0 (xv := xv) hn hm rfl
    exact ⟨_, _, _, h⟩
  · obtain ⟨len, τ, hm⟩ := hasA_mem hk
    obtain ⟨a, h⟩ := xlook_mem0 (xv := xv) hn hm rfl
    exact ⟨_, _, _, _, h⟩
  · obtain ⟨len, kt, vt, hm⟩ := hasM_mem hk
    obtain ⟨a, h⟩ := xlook_mem0 (xv := xv) hn hm rfl
    exact ⟨_, _, _, _, _, h⟩
  · obtain ⟨len, τ, τr, hm⟩ := hasR_mem hk
    obtain ⟨a, h⟩ := xlook_mem0 (xv := xv) hn hm rfl
    exact ⟨_, _, _, h⟩
  · cases hk
theorem kind_in {xs : List LV} {xv : denL (xtys xs)} (hn : (xnames xs).Nodup) {sv : SV} (hnm : named sv = true) (hk : kindOk xs sv = true) : Kind (xroots xs xv) sv := by
  have list : ∀ {l : List SV}, kindOkL xs l = true → KindL (xroots xs xv) l := by
    intro l
    induction l with
    | nil => intro _; trivial
    | cons a l ih =>
      intro h
      simp only [kindOkL, Bool.and_eq_true] at h
      exact ⟨kind_in0 hn h.1, ih h.2⟩
  rcases named_fn hnm with ⟨f, a, b, rfl, _, _⟩ | ⟨n1, n2, _⟩
  · simp only [kindOk, Bool.and_eq_true] at hk
    exact ⟨list hk.1, list hk.2⟩
  · have e : kindOk0 xs sv = true := by cases sv <;> first | exact hk | exact (n2 _ _ _ rfl).elim
    have := kind_in0 (xv := xv) hn e
    cases sv <;> first | exact this | exact (n2 _ _ _ rfl).elim
theorem xslots_mem {i : Nat} {sv : SV} : ∀ {xs : List LV} {xv : denL (xtys xs)}, (i, sv) ∈ xslots xs xv → (∃ len τ a, LV.t i len τ ∈ xs ∧ sv = .v len τ a) ∨ ∃ n len τ, LV.o i n len τ ∈ xs ∧ sv = .sf n
  | [], _, h => by simp [xslots] at h
  | .t s len τ :: l, (a, xv), h => by
    simp only [xslots, List.mem_cons] at h
    rcases h with h | h
    · simp only [Prod.mk.injEq] at h
      obtain ⟨rfl, rfl⟩ := h
      exact .inl ⟨len, τ, a, by simp, rfl⟩
    · rcases xslots_mem h with ⟨a, b, c, h1, h2⟩ | ⟨a, b, c, h1, h2⟩
      · exact .inl ⟨a, b, c, by simp [h1], h2⟩
      · exact .inr ⟨a, b, c, by simp [h1], h2⟩
  | .o s n len τ :: l, (a, xv), h => by
    simp only [xslots, List.mem_cons] at h
    rcases h with h | h
    · simp only [Prod.mk.injEq] at h
      obtain ⟨rfl, rfl⟩ := h
      exact .inr ⟨n, len, τ, by simp, rfl⟩
    · rcases xslots_mem h with ⟨a, b, c, h1, h2⟩ | ⟨a, b, c, h1, h2⟩
      · exact .inl ⟨a, b, c, by simp [h1], h2⟩
      · exact .inr ⟨a, b, c, by simp [h1], h2⟩
  | .r _ _ _ _ :: l, (a, xv), h | .a _ _ _ :: l, (a, xv), h | .m _ _ _ _ :: l, (a, xv), h => by
    rcases xslots_mem (xs := l) (xv := xv) h with ⟨a, b, c, h1, h2⟩ | ⟨a, b, c, h1, h2⟩
    · exact .inl ⟨a, b, c, by simp [h1], h2⟩
    · exact .inr ⟨a, b, c, by simp [h1], h2⟩
theorem noLen_mem : ∀ {xs : List LV}, noLen xs = true → ∀ {x : LV}, x ∈ xs → (∀ a : den x.ty, (x.root a).len = false) ∧ (∀ s len τ, x = .t s len τ → len = false)
  | y :: l, h, x, hx => by
    have hl : noLen l = true := by cases y <;> simp only [noLen, Bool.and_eq_true] at h <;> exact h.2
    rcases List.mem_cons.1 hx with rfl | hx
    · cases x <;> simp only [noLen, Bool.and_eq_true, Bool.not_eq_true'] at h <;> refine ⟨fun a => ?_, fun s len τ e => ?_⟩ <;> first | exact h.1 | rfl | (cases e; exact h.1) | cases e
    · exact noLen_mem hl hx
section
variable {C C' : Ctx} {I I1 : Set'} {β β1 : Nat → Value} {F F1 : Nat → List Nat} {w w' : World} {tm tm' : Array Value}
theorem conv_root {R : Root} {v : Value} {X : List Nat} {h : Hp} (hc : (∀ b, C'.L b → C.L b) ∨ R.len = false) (hr : RootR h C'.L I1 v R X) : RootR h C.L I1 v R X := by
  have key : ∀ b, Sx C'.L I1 R.len b → Sx C.L I1 R.len b ∧ h b = h b := by
    rintro b (hb | ⟨hb, hb'⟩)
    · exact ⟨.inl hb, rfl⟩
    · rcases hc with hc | hc
      · exact ⟨.inr ⟨hb, hc b hb'⟩, rfl⟩
      · rw [hc] at hb; cases hb
  cases R with
  | box l t a => exact Rep.keep key (fun _ _ => rfl) hr
  | arr f l t a => exact ⟨Rep.keep key (fun _ _ => rfl) hr.1, hr.2⟩
  | map l k v es z =>
    obtain ⟨b, ents, clock, X', g1, g2, g3, g4, g5⟩ := hr
    exact ⟨b, ents, clock, X', g1, g2, g3, RMz.mono_mem (fun _ _ => Rep.keep key (fun _ _ => rfl)) (fun _ _ _ _ => Rep.keep key (fun _ _ => rfl)) g4, g5⟩
theorem pinned {σ : St} {c : Cut} {asg : List Nat} {xv : denL (xtys c.xs)} (hi : Inv C I β F σ w tm) (hc : CutOk σ asg c) (hE : Exts σ c.xs xv) (hpk : pinOk σ c.ks = true) {s : Nat} {sv : SV} (hm : KV.c s sv ∈ c.ks) {r : Nat} (hr : r ∈ namesOf sv) {h' : Hp} {L' I' : Set'} {ρ' : List (Nat × Root)}
    (hs' : SVR h' L' I' β1 ρ' sv (tm'.getD s undef)) (hk' : Kind ρ' sv) (hp' : ∀ k l t a, look ρ' k = some (.box l t a) → ptrOf (β1 k) 0 = β1 k) (htm : tm'.getD s undef = tm.getD s undef) : β1 r = β r := by
  obtain ⟨n1, n2⟩ := kindsOk_mem hc.kinds hm
  have h1 := svSame_ok (hi.slots s) (pinOk_mem hpk hm) n1
  obtain ⟨k1, _, _⟩ := kind_ok (β := β) (tm := tm) hc.nm hE n1 n2
  rw [htm] at hs'
  exact named_eq h1 hs' n1 k1 hk' hi.ptr0 hp' r hr
theorem leaveX {σ : St} {c : Cut} {asg : List Nat} {kv : denL (ktys c.ks)} {xv b : denL (xtys c.xs)} (hi : Inv C I β F σ w tm) (hc : CutOk σ asg c) (hx : extract σ c.xs = some xv) (hpk : pinOk σ c.ks = true)
    (hW : Within C C' I F w (takenNames σ c.xs)) (hLL : klents σ c.ks = [] → ∀ b, C'.L b → C.L b) (h2 : Inv C' I1 β1 F1 (fill σ.n σ.b c.ks kv c.xs b) w' tm') (htm : ∀ i, natMem i asg = false → tm'.getD i undef = tm.getD i undef) :
    ∃ β2 F2, Inv C I1 β2 F2 (behind σ asg c b) w' tm' := by
  have hE := extract_exts hx
  have hL8 : (∀ b, C'.L b → C.L b) ∨ noLen c.xs = true := by
    rcases hc.len with h | h
    · exact .inl (hLL h)
    · exact .inr h
  have hkeys : ((appT (xslots c.xs b) (kslots c.ks kv)).map (·.1)).Nodup := by
    rw [appT_map, xslots_keys, kslots_keys, List.nodup_append]
    exact ⟨hc.sl.1, hc.ks.1, fun a ha b hb e => hc.sl.2 a ha (e ▸ hb)⟩
  have hslot : ∀ i sv, (i, sv) ∈ appT (xslots c.xs b) (kslots c.ks kv) → SVR (hpOf w') C'.L I1 β1 (xroots c.xs b) sv (tm'.getD i undef) := by
    intro i sv h
    have h1 := h2.slots i
    simp only [fill] at h1
    rw [find_of_nodup hkeys h] at h1
    exact h1
  have hnk : ∀ s ∈ kslotsOf c.ks, natMem s asg = false := by
    intro s hs
    cases hq : natMem s asg with
    | false => rfl
    | true => exact (hc.ks.2 s hs (natMem_iff.1 hq)).elim
  have hpin : ∀ {r}, r ∈ pins c.ks → β1 r = β r ∧ ((∃ len τ τr, LV.r r len τ τr ∈ c.xs) ∨ (∃ len τ, LV.a r len τ ∈ c.xs) ∨ ∃ len k v, LV.m r len k v ∈ c.xs) := by
    intro r hr
    obtain ⟨s, sv, h1, h3⟩ := pins_mem hr
    obtain ⟨n1, n2⟩ := kindsOk_mem hc.kinds h1
    obtain ⟨s1, s2⟩ := kc_slot kv h1
    exact ⟨pinned hi hc hE hpk h1 h3 (hslot s sv (appT_mem.2 (.inr s1))) (kind_in hc.nm n1 n2) h2.ptr0 (htm s (hnk s s2)), kind_x n1 n2 r h3⟩
  refine ⟨_, _, merge (β' := β1) (F' := F1) (tk := takenNames σ c.xs) (asg := asg) (gone := without (appN (xnames c.xs) (takenNames σ c.xs)) (pins c.ks)) (ρx := xroots c.xs b) (xt := xslots c.xs b) hi hW (taken_there hE) h2.room ?_ ?_ ?_ ?_ ?_ ?_ ?_ htm h2.size⟩
  · intro k R h
    have hk : Kept C' I1 w' (β1 k) R (F1 k) := ⟨h2.roots k R h, h2.nodup k R h, h2.own k R h⟩
    refine ⟨hk, conv_root ?_ hk.root, h2.holes k R h⟩
    rcases hL8 with h8 | h8
    · exact .inl h8
    · obtain ⟨x, g1, _, a, rfl⟩ := xlook0 h
      exact .inr ((noLen_mem h8 g1).1 a)
  · intro k R h j hj
    obtain ⟨x, g1, g2, a, rfl⟩ := xlook0 h
    cases x with
    | r n len τ τr =>
      have hj' : holeIn j τ = true := hj
      obtain ⟨p, hp, rfl⟩ := (holeIn_iff (o := 0)).1 hj'
      obtain ⟨y, y1, y2, _⟩ := ram_mem (solidK_mem (holesFit_r hc.fit g1).1 p hp)
      obtain ⟨a', g3⟩ := xlook_mem0 (xv := b) hc.nm y1 y2
      rw [g3]; simp
    | t _ _ _ => cases g2
    | a n len τ => simp [LV.root, Root.holes] at hj
    | m n len k v => simp [LV.root, Root.holes] at hj
    | o s n len τ => simp [LV.root, Root.holes] at hj
  · intro k R hk hl j hj
    have hl' : look (delAll (takenNames σ c.xs) σ.r) k = some R := by simp only [look_delAll, hk, if_false]; exact hl
    have hnot : ¬ (j ∈ xnames c.xs ∨ j ∈ takenNames σ c.xs) := fun h => by
      have := freeN_ok (hc.free j h) hl'
      rw [hj] at this; cases this
    simp only [not_or] at hnot
    refine ⟨hnot.2, ?_⟩
    cases hq : look (xroots c.xs b) j with
    | none => rfl
    | some R' => exact (hnot.1 (xlook_name.1 (by rw [hq]; simp))).elim
  · exact h2.disj
  · intro i sv h
    have h1 := hslot i sv (appT_mem.2 (.inl h))
    rcases xslots_mem h with ⟨len, τ, a, hm, rfl⟩ | ⟨n, len, τ, hm, rfl⟩
    · have hsol := holesFit_t hc.fit hm
      refine ⟨?_, fun r hr => ?_⟩
      · obtain ⟨cs, g1, g2, g3⟩ := h1
        refine ⟨cs, Rep.keep (fun b hb => ⟨?_, rfl⟩) (by simp) g1, g2, g3⟩
        rcases hb with hb | ⟨hb, hb'⟩
        · exact .inl hb
        · rcases hL8 with h8 | h8
          · exact .inr ⟨hb, h8 b hb'⟩
          · rw [(noLen_mem h8 hm).2 _ _ _ rfl] at hb; cases hb
      · simp only [SV.uses, SV.uses0] at hr
        obtain ⟨p, hp, _⟩ := (holeIn_iff (o := 0)).1 hr
        rw [solid_iff hsol] at hp
        exact absurd hp (by simp)
    · refine ⟨h1, fun r hr => ?_⟩
      simp only [SV.uses, SV.uses0] at hr
      obtain rfl := Nat.eq_of_beq_eq_true hr
      obtain ⟨a, g⟩ := xlook_mem0 (xv := b) hc.nm hm rfl
      rw [g]; simp
  · intro r R hl hr
    rcases mem_names hr with ⟨h1, h3⟩ | h1
    · left
      refine ⟨h3, ?_⟩
      cases hq : look (xroots c.xs b) r with
      | none => rfl
      | some R' => exact (h1 (xlook_name.1 (by rw [hq]; simp))).elim
    · right
      obtain ⟨hβ, hx⟩ := hpin h1
      rcases hx with ⟨len, τ, τr, hm⟩ | ⟨len, τ, hm⟩ | ⟨len, kt, vt, hm⟩
      · obtain ⟨a, ⟨len', t, a0, g1, _, g2⟩, _, _⟩ := xlook_mem (β := β) (tm := tm) hc.nm hE hm rfl
        obtain ⟨a', g3⟩ := xlook_mem0 (xv := b) hc.nm hm rfl
        rw [hl] at g1
        obtain rfl := Option.some.inj g1
        exact ⟨_, g3, coe_lay g2, hβ⟩
      · obtain ⟨a, ⟨f, len', g1, _⟩, _, _⟩ := xlook_mem (β := β) (tm := tm) hc.nm hE hm rfl
        obtain ⟨a', g3⟩ := xlook_mem0 (xv := b) hc.nm hm rfl
        rw [hl] at g1
        obtain rfl := Option.some.inj g1
        refine ⟨_, g3, ⟨rfl, ?_⟩, hβ⟩
        obtain ⟨⟨a1, c1, q1, _⟩, _⟩ := hi.roots r _ hl
        obtain ⟨⟨a2, c2, q2, _⟩, _⟩ := h2.roots r _ g3
        simp only [List.cons.injEq, and_true] at q1 q2
        rw [q1, q2] at hβ
        simp only [Value.slice.injEq] at hβ
        exact hβ.2.1.symm
      · obtain ⟨a, ⟨len', g1, _⟩, _, _⟩ := xlook_mem (β := β) (tm := tm) hc.nm hE hm rfl
        obtain ⟨a', g3⟩ := xlook_mem0 (xv := b) hc.nm hm rfl
        rw [hl] at g1
        obtain rfl := Option.some.inj g1
        exact ⟨_, g3, trivial, hβ⟩
  · intro r hl hr
    rcases mem_names hr with ⟨h1, h3⟩ | h1
    · cases hq : look (xroots c.xs b) r with
      | none => rfl
      | some R' => exact (h1 (xlook_name.1 (by rw [hq]; simp))).elim
    · obtain ⟨_, hx⟩ := hpin h1
      rcases hx with ⟨len, τ, τr, hm⟩ | ⟨len, τ, hm⟩ | ⟨len, kt, vt, hm⟩
      · obtain ⟨a, ⟨len', t, a0, g1, _, g2⟩, _, _⟩ := xlook_mem (β := β) (tm := tm) hc.nm hE hm rfl
        rw [hl] at g1; cases g1
      · obtain ⟨a, ⟨f, len', g1, _⟩, _, _⟩ := xlook_mem (β := β) (tm := tm) hc.nm hE hm rfl
        rw [hl] at g1; cases g1
      · obtain ⟨a, ⟨len', g1, _⟩, _, _⟩ := xlook_mem (β := β) (tm := tm) hc.nm hE hm rfl
        rw [hl] at g1; cases g1
end
end Go.Proofs.YthlpjdjipchdkaaDoor.E

namespace Go.Proofs.YthlpjdjipchdkaaDoor.E
open Go
set_option linter.unusedSimpArgs false
set_option linter.unusedVariables false
theorem blook {σ : St} {k : Nat} {R : Root} : ∀ {xs : List LV} {b : denL (btys xs)}, extractB σ xs = some b → look (broots xs b) k = some R → ∃ len τ τr a, LV.r k len τ τr ∈ xs ∧ R = .box len τr a ∧ ∃ len' t a0, look σ.r k = some (.box len' t a0) ∧ (!len' || len) = true ∧ coe τr t a0 = some a
  | [], _, _, h => by simp [broots, look] at h
  | .r n len τ τr :: l, (a, b), he, h => by
    simp only [extractB] at he
    split at he
    · rename_i len' t a0 hl
      split at he
      · rename_i y r hlen hc hr
        cases he
        simp only [broots] at h
        by_cases e : k = n
        · subst e
          rw [look_cons_same] at h
          exact ⟨len, τ, τr, a, by simp, (Option.some.inj h).symm, len', t, a0, hl, hlen, hc⟩
        · rw [look_cons_ne e] at h
          obtain ⟨x1, x2, x3, x4, g1, g2⟩ := blook (xs := l) hr h
          exact ⟨x1, x2, x3, x4, by simp [g1], g2⟩
      · simp at he
    · simp at he
  | .t _ _ _ :: l, b, he, h | .a _ _ _ :: l, b, he, h | .m _ _ _ _ :: l, b, he, h | .o _ _ _ _ :: l, b, he, h => by
    obtain ⟨x1, x2, x3, x4, g1, g2⟩ := blook (xs := l) he h
    exact ⟨x1, x2, x3, x4, by simp [g1], g2⟩
theorem blook_mem {n : Nat} {len : Bool} {τ τr : Ty} : ∀ {xs : List LV} {b : denL (btys xs)}, (xnames xs).Nodup → LV.r n len τ τr ∈ xs → ∃ a, look (broots xs b) n = some (.box len τr a)
  | .r k len' τ' τr' :: l, (a, b), hn, hm => by
    rw [xnames_cons] at hn
    simp only [LV.nm] at hn
    obtain ⟨hn1, hn2⟩ := List.nodup_cons.1 hn
    rcases List.mem_cons.1 hm with h | hm
    · cases h
      exact ⟨a, look_cons_same⟩
    · have hkl : n ∈ xnames l := by
        have : ∀ {l : List LV}, LV.r n len τ τr ∈ l → n ∈ xnames l := by
          intro l
          induction l with
          | nil => intro h; simp at h
          | cons z l ih =>
            intro h
            rw [xnames_cons]
            rcases List.mem_cons.1 h with rfl | h
            · simp [LV.nm]
            · cases hz : z.nm with
              | none => exact ih h
              | some n => simp [ih h]
        exact this hm
      obtain ⟨a', g⟩ := blook_mem (b := b) hn2 hm
      exact ⟨a', by simp only [broots]; rw [look_cons_ne (by rintro rfl; exact hn1 hkl)]; exact g⟩
  | .t _ _ _ :: l, b, hn, hm => by
    rw [xnames_cons] at hn
    rcases List.mem_cons.1 hm with h | hm
    · cases h
    · exact blook_mem (xs := l) (b := b) hn hm
  | .a _ _ _ :: l, b, hn, hm | .m _ _ _ _ :: l, b, hn, hm | .o _ _ _ _ :: l, b, hn, hm => by
    rw [xnames_cons] at hn
    rcases List.mem_cons.1 hm with h | hm
    · cases h
    · exact blook_mem (xs := l) (b := b) (List.nodup_cons.1 hn).2 hm
theorem r_name {xs : List LV} {n : Nat} {len : Bool} {τ τr : Ty} (h : LV.r n len τ τr ∈ xs) : n ∈ xnames xs := by
  induction xs with
  | nil => simp at h
  | cons z l ih =>
    rw [xnames_cons]
    rcases List.mem_cons.1 h with rfl | h
    · simp [LV.nm]
    · cases hz : z.nm with
      | none => exact ih h
      | some n => simp [ih h]
section
variable {C C' : Ctx} {I I1 : Set'} {β β1 : Nat → Value} {F F1 : Nat → List Nat} {w w' : World} {tm tm' : Array Value}
theorem leaveB {σ σ' : St} {c : Cut} {asg : List Nat} {n : Nat} {xv : denL (xtys c.xs)} {b : denL (btys c.xs)} {a a' : Act} {rs : List Ty} {rv : List ResultVar} {q : denL rs} (hi : Inv C I β F σ w a.tmps) (hc : CutOk σ asg c) (hx : extract σ c.xs = some xv) (hpk : pinOk σ c.ks = true) (kv : denL (ktys c.ks))
    (hW : Within C C' I F w (takenNames σ c.xs)) (hLL : klents σ c.ks = [] → ∀ b, C'.L b → C.L b) (h2 : RetS C' rs rv q σ' w' a') (hn : n = σ.n) (hb : outB n σ' c = some b) (htm : ∀ i, natMem i asg = false → a'.tmps.getD i undef = a.tmps.getD i undef) :
    RetS C rs rv q (behindB σ asg c b) w' a' := by
  have hE := extract_exts hx
  have hL8 : (∀ b, C'.L b → C.L b) ∨ noLen c.xs = true := by
    rcases hc.len with h | h
    · exact .inl (hLL h)
    · exact .inr h
  have hnk : ∀ s ∈ kslotsOf c.ks, natMem s asg = false := by
    intro s hs
    cases hq : natMem s asg with
    | false => rfl
    | true => exact (hc.ks.2 s hs (natMem_iff.1 hq)).elim
  unfold outB at hb
  cases hj : joinX [] c.xs σ' with
  | none => simp [hj] at hb
  | some σ'' =>
    simp only [hj] at hb
    cases hp' : (pinOkB σ'' c.ks && nilL σ''.k && Nat.beq σ''.n n) with
    | false => simp [hp'] at hb
    | true =>
      simp only [hp'] at hb
      simp only [Bool.and_eq_true] at hp'
      obtain ⟨⟨hp', _⟩, hbn⟩ := hp'
      obtain ⟨hd, vals, hrv, I1, β1, F0, Ys, hv0, hR, hT⟩ := h2
      obtain ⟨F1, hv, hl1, hfrom⟩ := joinX_ok hv0 hj
      rw [hW.P] at hrv
      have hpres := taken_there hE
      have hap : ∀ k R, look σ''.r k = some R → ∀ b ∈ F1 k, b ∉ Ys.flatten := by
        intro k R hl b hb hbY
        obtain ⟨j, R0, g1, g2⟩ := hfrom k R hl b hb
        exact hT.apart j R0 g1 b g2 hbY
      have hroot : ∀ k R, look (broots c.xs b) k = some R → Kept C' I1 w' (β1 k) R (F1 k) ∧ RootH (hpOf w') β1 (broots c.xs b) (β1 k) R ∧ ∃ len' t a0, look σ''.r k = some (.box len' t a0) := by
        intro k R h
        obtain ⟨len, τ, τr, y, hm, rfl, len', t, a0, g1, g2, g3⟩ := blook hb h
        have imp : len' = true → len = true := by intro e; subst e; simpa using g2
        have hR0 : Rep (hpOf w') (Sx C'.L I1 len') false (.ref true t) a0 [β1 k] (F1 k) := hv.roots k _ g1
        have hR1 := Rep.wide (Sx.up (fun _ h => h) (fun _ h => h) imp) (coe_rep (τ := .ref true τr) (t := .ref true t) (y := (y : den τr)) (by simp only [coe, boolEq]; exact g3) hR0).1
        obtain ⟨b0, arr, E', fr, e1, e2, _⟩ := hv.holes k _ g1
        exact ⟨⟨hR1, hv.nodup k _ g1, hv.own k _ g1⟩, ⟨b0, arr, E', fr, e1, e2, Holes.solid (holesFit_r hc.fit hm).2.1⟩, len', t, a0, g1⟩
      have hpin : ∀ {r}, r ∈ pinsB c.ks → β1 r = β r ∧ ∃ len τ τr, LV.r r len τ τr ∈ c.xs := by
        intro r hr
        obtain ⟨s, sv, h1, hbx, h3⟩ := pinsB_mem hr
        obtain ⟨n1, n2⟩ := kindsOk_mem hc.kinds h1
        obtain ⟨s1, s2⟩ := kc_slot kv h1
        have hbn : ∃ len τ τr, LV.r r len τ τr ∈ c.xs := boxSV_bound n2 hbx r h3
        refine ⟨?_, hbn⟩
        have h4 := svSame_ok (hv.slots s) (pinOkB_mem hp' h1 hbx) n1
        have hk' : Kind σ''.r sv := by
          refine boxSV_kind hbx fun r' hr' => ?_
          obtain ⟨len, τ, τr, hm⟩ := boxSV_bound n2 hbx r' hr'
          obtain ⟨y, g⟩ := blook_mem (b := b) hc.nm hm
          obtain ⟨_, _, len', t, a0, g1⟩ := hroot r' _ g
          exact ⟨_, _, _, g1⟩
        exact pinned hi hc hE hpk h1 h3 h4 hk' hv.ptr0 (htm s (hnk s s2))
      have hsz : a'.tmps.size = σ.n := by rw [hv.size, Nat.eq_of_beq_eq_true hbn, hn]
      have hm := merge (β' := β1) (F' := F1) (tk := takenNames σ c.xs) (asg := asg) (gone := without (appN (xnames c.xs) (takenNames σ c.xs)) (pinsB c.ks)) (ρx := broots c.xs b) (xt := []) hi hW hpres hv.room
        (fun k R h => by
          obtain ⟨g1, g2, _⟩ := hroot k R h
          refine ⟨g1, conv_root ?_ g1.root, g2⟩
          rcases hL8 with h8 | h8
          · exact .inl h8
          · obtain ⟨len, τ, τr, y, hm, rfl, _⟩ := blook hb h
            exact .inr ((noLen_mem h8 hm).1 (dflt τ)))
        (fun k R h j hj => by
          obtain ⟨len, τ, τr, y, hm, rfl, _⟩ := blook hb h
          have hj' : holeIn j τr = true := hj
          obtain ⟨p, hp, _⟩ := (holeIn_iff (o := 0)).1 hj'
          rw [solid_iff (holesFit_r hc.fit hm).2.1] at hp
          exact absurd hp (by simp))
        (fun k R hk hl j hj => by
          have hl' : look (delAll (takenNames σ c.xs) σ.r) k = some R := by simp only [look_delAll, hk, if_false]; exact hl
          have hnot : ¬ (j ∈ xnames c.xs ∨ j ∈ takenNames σ c.xs) := fun h => by
            have := freeN_ok (hc.free j h) hl'
            rw [hj] at this; cases this
          simp only [not_or] at hnot
          refine ⟨hnot.2, ?_⟩
          cases hq : look (broots c.xs b) j with
          | none => rfl
          | some R' => obtain ⟨len, τ, τr, y, hm, _⟩ := blook hb hq; exact (hnot.1 (r_name hm)).elim)
        (fun k k' R R' hne h h' => by
          obtain ⟨_, _, l1, t1, a1, g1⟩ := hroot k R h
          obtain ⟨_, _, l2, t2, a2, g2⟩ := hroot k' R' h'
          exact hv.disj k k' _ _ hne g1 g2)
        (by intro i sv h; simp at h)
        (by
          intro r R hl hr
          rcases mem_names hr with ⟨h1, h3⟩ | h1
          · left
            refine ⟨h3, ?_⟩
            cases hq : look (broots c.xs b) r with
            | none => rfl
            | some R' => obtain ⟨len, τ, τr, y, hm, _⟩ := blook hb hq; exact (h1 (r_name hm)).elim
          · right
            obtain ⟨hβ, len, τ, τr, hm⟩ := hpin h1
            obtain ⟨y, g⟩ := blook_mem (b := b) hc.nm hm
            obtain ⟨av, ⟨len', t, a0, g1, _, g2⟩, _, _⟩ := xlook_mem (β := β) (tm := a.tmps) hc.nm hE hm rfl
            rw [hl] at g1
            obtain rfl := Option.some.inj g1
            exact ⟨_, g, layB_trans (coe_lay g2) (holesFit_r hc.fit hm).2.2, hβ⟩)
        (by
          intro r hl hr
          rcases mem_names hr with ⟨h1, h3⟩ | h1
          · cases hq : look (broots c.xs b) r with
            | none => rfl
            | some R' => obtain ⟨len, τ, τr, y, hm, _⟩ := blook hb hq; exact (h1 (r_name hm)).elim
          · obtain ⟨hβ, len, τ, τr, hm⟩ := hpin h1
            obtain ⟨av, ⟨len', t, a0, g1, _, g2⟩, _, _⟩ := xlook_mem (β := β) (tm := a.tmps) hc.nm hE hm rfl
            rw [hl] at g1; cases g1)
        htm hsz
      refine ⟨hd, vals, hrv, I1, _, _, Ys, hm, RetsR.wide (fun b hb => ?_) hR, ⟨hT.nodup, ?_, ?_⟩⟩
      · rcases hb with hb | ⟨hb, _⟩
        · exact .inl hb
        · cases hb
      · intro k hk
        obtain ⟨h1, h2, h3, h4⟩ := hT.own k hk
        refine ⟨h1, fun h => h2 (hW.L k h), h3, ?_⟩
        rcases h4 with h4 | h4
        · obtain ⟨r, hr, hbr⟩ := (hW.X k).1 h4
          obtain ⟨R, hR⟩ := hpres r hr
          exact (hi.own r R hR k hbr).2.2.2
        · rw [hW.n] at h4; exact .inr (Nat.le_trans hi.grow h4)
      · intro r R hl k hkF hk
        simp only [behindB] at hl
        rw [look_appR] at hl
        cases hq : look (broots c.xs b) r with
        | some R' =>
          simp only [pickF, hq] at hkF
          obtain ⟨_, _, l1, t1, a1, g1⟩ := hroot r R' hq
          exact hap r _ g1 k hkF hk
        | none =>
          rw [hq] at hl
          simp only [pickF, hq] at hkF
          simp only [look_delAll] at hl
          by_cases htk : r ∈ takenNames σ c.xs
          · simp [htk] at hl
          · simp only [htk, if_false] at hl
            rcases (hT.own k hk).2.2.2 with h4 | h4
            · obtain ⟨r', hr', hbr⟩ := (hW.X k).1 h4
              obtain ⟨R', hR'⟩ := hpres r' hr'
              exact hi.disj r r' R R' (by rintro rfl; exact htk hr') hl hR' k hkF hbr
            · rw [hW.n] at h4
              have := (hi.own r R hl k hkF).2.2.1
              omega
end
def SatE (C : Ctx) (rs : List Ty) (rv : List ResultVar) : Ex (denL rs) → St → World → Act → Prop
  | .n, σ, w, a => Sat C σ w a
  | .e _, σ, w, a => Sat C σ w a
  | .r q, σ, w, a => RetS C rs rv q σ w a
def exitOf {Q : Type} : Ex Q → Exit
  | .n => .normal
  | .e j => .exit j
  | .r _ => .ret
def Keep (asg : List Nat) (a a' : Act) : Prop := ∀ i, natMem i asg = false → a'.tmps.getD i undef = a.tmps.getD i undef
theorem Keep.rfl {asg : List Nat} {a : Act} : Keep asg a a := fun _ _ => Eq.refl _
theorem Keep.trans {asg : List Nat} {a b c : Act} (h : Keep asg a b) (h' : Keep asg b c) : Keep asg a c := fun i hi => (h' i hi).trans (h i hi)
theorem Keep.left {x y : List Nat} {a b : Act} (h : Keep x a b) : Keep (x ++ y) a b := fun i hi => h i (by
  cases hq : natMem i x with
  | false => rfl
  | true => rw [natMem_iff.2 (List.mem_append.2 (.inl (natMem_iff.1 hq)))] at hi; cases hi)
theorem Keep.right {x y : List Nat} {a b : Act} (h : Keep y a b) : Keep (x ++ y) a b := fun i hi => h i (by
  cases hq : natMem i y with
  | false => rfl
  | true => rw [natMem_iff.2 (List.mem_append.2 (.inr (natMem_iff.1 hq)))] at hi; cases hi)
section
variable {rs : List Ty} {rv : List ResultVar} {P : Program} {T : Tab}
def OutL (C : Ctx) (rs : List Ty) (rv : List ResultVar) (n bb : Nat) (c : Cut) (kv : denL (ktys c.ks)) (r : LO (denL rs) (denL (xtys c.xs)) (denL (btys c.xs))) (e : Exit) (a : Act) (w : World) : Prop :=
  match r with
  | .brk b => e = .normal ∧ Sat C (fill n bb c.ks kv c.xs b) w a
  | .ext j b => e = .exit j ∧ Sat C (fill n bb c.ks kv c.xs b) w a
  | .ret q b => e = .ret ∧ ∃ σ', RetS C rs rv q σ' w a ∧ outB n σ' c = some b
theorem cutK_ok {R : Type} {σ0 : St} {asg : List Nat} {c : Cut} {run : denL (ktys c.ks) → denL (xtys c.xs) → Option (LO (denL rs) (denL (xtys c.xs)) (denL (btys c.xs)))} {K : Ex (denL rs) → St → Option R} {res : R} {C : Ctx} {w : World} {a : Act} {code : Code} {Q : Exit → Act → World → Prop}
    (hs : Sat C σ0 w a) (he : cutK σ0 asg c run K = some res)
    (hrun : ∀ (C' : Ctx) (σ : St) kv xv r, C'.P = C.P → C'.T = C.T → C'.G = C.G → C'.tk = [] → σ.n = σ0.n → σ.b = σ0.b → CutOk σ asg c → run kv xv = some r → KF C' a.tmps c.ks kv → Sat C' (fill σ0.n σ0.b c.ks kv c.xs xv) w a →
      ∀ Q', (∀ e a' w', Keep asg a a' → OutL C' rs rv σ0.n σ0.b c kv r e a' w' → Q' e a' w') → code.wp C.P Q' a w)
    (hQ : ∀ e σ' a' w', K e σ' = some res → SatE C rs rv e σ' w' a' → Keep asg a a' → Q (exitOf e) a' w') : code.wp C.P Q a w := by
  obtain ⟨hd, I, β, F0, hi0⟩ := hs
  unfold cutK at he
  cases hj : joinX (xnames c.xs) c.xs σ0 with
  | none => simp [hj] at he
  | some σ =>
    simp only [hj] at he
    obtain ⟨F, hi, hl0, _⟩ := joinX_ok hi0 hj
    cases hc : cutOk σ asg c with
    | false => simp [hc] at he
    | true =>
      simp only [hc] at he
      have hc := cutOk_ok hc
      split at he
      · rename_i kv xv hk hx
        cases hr : run kv xv with
        | none => rw [hr] at he; simp [bdL] at he
        | some r =>
          rw [hr] at he
          obtain ⟨C', h1, h2, h2', h2'', h3, h4, h5, h6⟩ := enter hi hc hk hx
          have e1 : σ.n = σ0.n := hl0.n
          have e2 : σ.b = σ0.b := hl0.b
          rw [e1, e2] at h6
          refine hrun C' σ kv xv r h1 h2 h2' h2'' e1 e2 hc hr h5 ⟨hd, _, _, _, h6⟩ Q fun e a' w' hkp hO => ?_
          cases r with
          | brk b =>
            obtain ⟨rfl, hd', I1, β1, F1, h7⟩ := hO
            rw [← e1, ← e2] at h7
            obtain ⟨β2, F2, h8⟩ := leaveX hi hc hx (extractK_pin hk) h3 h4 h7 hkp
            exact hQ .n _ a' w' he ⟨hd', I1, β2, F2, h8⟩ hkp
          | ext j b =>
            obtain ⟨rfl, hd', I1, β1, F1, h7⟩ := hO
            rw [← e1, ← e2] at h7
            obtain ⟨β2, F2, h8⟩ := leaveX hi hc hx (extractK_pin hk) h3 h4 h7 hkp
            exact hQ (.e j) _ a' w' he ⟨hd', I1, β2, F2, h8⟩ hkp
          | ret q b =>
            obtain ⟨rfl, σ', h7, h8⟩ := hO
            exact hQ (.r q) _ a' w' he (leaveB hi hc hx (extractK_pin hk) kv h3 h4 h7 e1.symm h8 hkp) hkp
      · simp at he
theorem KF.keep {C : Ctx} {asg : List Nat} {a a' : Act} (hk : Keep asg a a') : ∀ {ks : List KV} {kv : denL (ktys ks)}, (∀ s ∈ kslotsOf ks, natMem s asg = false) → KF C a.tmps ks kv → KF C a'.tmps ks kv
  | [], _, _, _ => trivial
  | .v s _ _ :: l, (_, r), hn, ⟨h1, h2⟩ => ⟨by rw [hk s (hn s (by simp [kslotsOf]))]; exact h1, KF.keep (ks := l) hk (fun s hs => hn s (by simp [kslotsOf, hs])) h2⟩
  | .q s _ _ :: l, (_, r), hn, ⟨h1, h2⟩ => ⟨by rw [hk s (hn s (by simp [kslotsOf]))]; exact h1, KF.keep (ks := l) hk (fun s hs => hn s (by simp [kslotsOf, hs])) h2⟩
  | .c s _ :: l, (_, r), hn, h => KF.keep (ks := l) hk (fun s hs => hn s (by simp [kslotsOf, hs])) h
theorem refill {C : Ctx} {σ0 σ : St} {asg : List Nat} {c : Cut} {kv : denL (ktys c.ks)} {b : denL (xtys c.xs)} {w : World} {a0 a : Act} (hc : CutOk σ0 asg c) (htk : C.tk = []) (hs : Sat C σ w a) {n bb : Nat} (hx : outX n bb σ c = some b) (hk : KF C a0.tmps c.ks kv) (hkp : Keep asg a0 a) :
    Sat C (fill n bb c.ks kv c.xs b) w a := by
  obtain ⟨hd, I, β, F0, hi0⟩ := hs
  unfold outX at hx
  cases hj : joinX (xnames c.xs) c.xs σ with
  | none => simp [hj] at hx
  | some σ1 =>
    simp only [hj] at hx
    obtain ⟨F, hi, _, _⟩ := joinX_ok hi0 hj
    cases hp : (apart (takenNames σ1 c.xs) [] && pinOk σ1 c.ks && Nat.beq σ1.n n && Nat.beq σ1.b bb && nilL σ1.k) with
    | false => simp [hp] at hx
    | true =>
      simp only [hp] at hx
      simp only [Bool.and_eq_true] at hp
      have hnk : ∀ s ∈ kslotsOf c.ks, natMem s asg = false := by
        intro s hs
        cases hq : natMem s asg with
        | false => rfl
        | true => exact (hc.ks.2 s hs (natMem_iff.1 hq)).elim
      have hS : Src C I β F σ1 w a.tmps c.xs := ⟨fun r _ R hl => ⟨hi.roots r R hl, hi.nodup r R hl, hi.own r R hl⟩, fun r _ R hl => hi.holes r R hl, fun r _ r' _ R R' hne h h' => hi.disj r r' R R' hne h h', hi.slots⟩
      exact ⟨hd, I, _, _, fill_inv hi.room htk hS (extract_exts hx) hc.nm (apart_iff hp.1.1.1.1).1 hp.1.1.1.2 (hk.keep hkp hnk) hc.kinds hc.fit hc.sol (by rw [hi.size]; exact Nat.eq_of_beq_eq_true hp.1.1.2)⟩
end
end Go.Proofs.YthlpjdjipchdkaaDoor.E

namespace Go.Proofs.YthlpjdjipchdkaaDoor.E
open Go
set_option linter.unusedSimpArgs false
set_option linter.unusedVariables false
theorem wp_loop_ind {P : Program} {c : Code} {A : Type} (S : Nat → A → Act → World → Prop) (Q : Exit → Act → World → Prop)
    (round : ∀ n x a w, S n x a w → c.wp P (Exit.then (fun a' w' => ∃ m y, m < n ∧ S m y a' w') Q) a w) : ∀ n x a w, S n x a w → (Code.loop c).wp P Q a w := by
  intro n x a w h b k cs
  have key : ∀ n x a w, S n x a w → ∃ e a' w', Q e a' w' ∧ Arrives P (lone (b.at a (.code c :: .inLoop c :: k)) cs w) b k cs e a' w' := by
    intro n
    induction n using Nat.strongRecOn with
    | _ n ih =>
      intro x a w h
      obtain ⟨e, a1, w1, hq, harr⟩ := round n x a w h b (.inLoop c :: k) cs
      cases e with
      | normal =>
        obtain ⟨m, y, hlt, h1⟩ := hq
        obtain ⟨e2, a2, w2, hq2, harr2⟩ := ih m hlt y a1 w1 h1
        exact ⟨e2, a2, w2, hq2, .of_steps (Steps.trans harr (.one step_inLoop)) harr2⟩
      | exit id => exact ⟨_, a1, w1, hq, .pass (x := .inLoop c) rfl (fun _ _ => .inl (by simp)) harr⟩
      | goto l => exact ⟨_, a1, w1, hq, .pass (x := .inLoop c) rfl (fun _ _ => .inl (by simp)) harr⟩
      | ret => exact ⟨_, a1, w1, hq, .pass (x := .inLoop c) rfl (fun _ _ => .inl (by simp)) harr⟩
      | panic ch => exact ⟨_, a1, w1, hq, .pass (x := .inLoop c) rfl (fun _ _ => .inl (by simp)) harr⟩
      | outgrown => exact ⟨_, a1, w1, hq, .pass (x := .inLoop c) rfl (fun _ _ => .inl (by simp)) harr⟩
  obtain ⟨e, a', w', hq, harr⟩ := key n x a w h
  exact ⟨e, a', w', hq, .of_steps (.one step_loop) harr⟩
theorem asB_ok {C : Ctx} {I : Set'} {β : Nat → Value} {ρ : List (Nat × Root)} {h : Hp} {sv : SV} {v : Value} {g : Bool} (hs : SVR h C.L I β ρ sv v) (he : asB sv = some g) : v = .bool g := by
  unfold asB at he
  split at he
  · simp at he; subst he; exact of_bool hs
  · cases he
theorem not_mem_of {i : Nat} {l : List Nat} (h : natMem i l = false) : i ∉ l := fun hm => by rw [natMem_iff.2 hm] at h; cases h
theorem loop_ok {P : Program} {rs : List Ty} {rv : List ResultVar} {C : Ctx} {σ0 : St} {asg : List Nat} {c : Cut} {id n bb ff : Nat} {kv : denL (ktys c.ks)} {body : St → (Ex (denL rs) → St → Option (LO (denL rs) (denL (xtys c.xs)) (denL (btys c.xs)))) → Option (LO (denL rs) (denL (xtys c.xs)) (denL (btys c.xs)))} {code : Code} {a0 : Act}
    (hc : CutOk σ0 asg c) (htk : C.tk = []) (hk : KF C a0.tmps c.ks kv)
    (hbody : ∀ {σ K res w a Q}, body σ K = some res → Sat C σ w a → (∀ e σ' a' w', K e σ' = some res → SatE C rs rv e σ' w' a' → Keep asg a a' → Q (exitOf e) a' w') → code.wp P Q a w) {r : LO (denL rs) (denL (xtys c.xs)) (denL (btys c.xs))} {Q : Exit → Act → World → Prop}
    (hQ : ∀ e a' w', Keep asg a0 a' → OutL C rs rv n bb c kv r e a' w' → Q e a' w') :
    ∀ m xv a w, loopF true id n bb ff c kv body m xv = some r → Keep asg a0 a → Sat C (fill n bb c.ks kv c.xs xv) w a → (Code.loop code).wp P (Exit.inBlock id Q) a w := by
  intro m xv a w he hkp hs
  refine wp_loop_ind (A := denL (xtys c.xs)) (fun m xv a w => loopF true id n bb ff c kv body m xv = some r ∧ Keep asg a0 a ∧ Sat C (fill n bb c.ks kv c.xs xv) w a) _ ?_ m xv a w ⟨he, hkp, hs⟩
  rintro m xv a w ⟨he, hkp, hs⟩
  cases m with
  | zero => simp [loopF] at he
  | succ m =>
    simp only [loopF] at he
    refine hbody he hs fun e σ' a' w' h1 h2 h3 => ?_
    have hkp' := hkp.trans h3
    cases e with
    | n =>
      simp only at h1
      cases hx : outX n bb σ' c with
      | none => simp [hx] at h1
      | some b =>
        simp only [hx] at h1
        exact ⟨m, b, Nat.lt_succ_self m, h1, hkp', refill hc htk h2 hx hk hkp'⟩
    | e j =>
      simp only at h1
      cases hx : outX n bb σ' c with
      | none => simp [hx] at h1
      | some b =>
        simp only [hx] at h1
        have hf := refill hc htk h2 hx hk hkp'
        show Exit.inBlock id Q (.exit j) a' w'
        cases hj : Nat.beq j id with
        | true =>
          rw [hj] at h1
          simp only [br, cond_true, cond_false, Option.some.injEq] at h1
          subst h1
          obtain rfl := Nat.eq_of_beq_eq_true hj
          simp only [Exit.inBlock, if_true]
          exact hQ _ _ _ hkp' ⟨rfl, hf⟩
        | false =>
          rw [hj] at h1
          simp only [br, cond_true, cond_false, Option.some.injEq] at h1
          subst h1
          have hne : j ≠ id := by rintro rfl; simp at hj
          simp only [Exit.inBlock, if_neg hne]
          exact hQ _ _ _ hkp' ⟨rfl, hf⟩
    | r q =>
      simp only at h1
      cases hx : outB n σ' c with
      | none => simp [hx] at h1
      | some b =>
        simp only [hx, Option.some.injEq] at h1
        subst h1
        exact hQ _ _ _ hkp' ⟨rfl, σ', h2, hx⟩
theorem once_ok {P : Program} {rs : List Ty} {rv : List ResultVar} {C : Ctx} {σ0 : St} {asg : List Nat} {c : Cut} {id n bb ff m : Nat} {kv : denL (ktys c.ks)} {body : St → (Ex (denL rs) → St → Option (LO (denL rs) (denL (xtys c.xs)) (denL (btys c.xs)))) → Option (LO (denL rs) (denL (xtys c.xs)) (denL (btys c.xs)))} {code : Code} {a0 : Act}
    (hc : CutOk σ0 asg c) (htk : C.tk = []) (hk : KF C a0.tmps c.ks kv)
    (hbody : ∀ {σ K res w a Q}, body σ K = some res → Sat C σ w a → (∀ e σ' a' w', K e σ' = some res → SatE C rs rv e σ' w' a' → Keep asg a a' → Q (exitOf e) a' w') → code.wp P Q a w) {r : LO (denL rs) (denL (xtys c.xs)) (denL (btys c.xs))} {Q : Exit → Act → World → Prop}
    (hQ : ∀ e a' w', Keep asg a0 a' → OutL C rs rv n bb c kv r e a' w' → Q e a' w') {xv : denL (xtys c.xs)} {w : World}
    (he : loopF false id n bb ff c kv body m xv = some r) (hs : Sat C (fill n bb c.ks kv c.xs xv) w a0) : code.wp P (Exit.inBlock id Q) a0 w := by
  cases m with
  | zero => simp [loopF] at he
  | succ m =>
    simp only [loopF] at he
    refine hbody he hs fun e σ' a' w' h1 h2 h3 => ?_
    cases e with
    | n =>
      simp only at h1
      cases hx : outX n bb σ' c with
      | none => simp [hx] at h1
      | some b =>
        simp only [hx, Option.some.injEq] at h1
        subst h1
        exact hQ _ _ _ h3 ⟨rfl, refill hc htk h2 hx hk h3⟩
    | e j =>
      simp only at h1
      cases hx : outX n bb σ' c with
      | none => simp [hx] at h1
      | some b =>
        simp only [hx] at h1
        have hf := refill hc htk h2 hx hk h3
        show Exit.inBlock id Q (.exit j) a' w'
        cases hj : Nat.beq j id with
        | true =>
          rw [hj] at h1
          simp only [br, cond_true, cond_false, Option.some.injEq] at h1
          subst h1
          obtain rfl := Nat.eq_of_beq_eq_true hj
          simp only [Exit.inBlock, if_true]
          exact hQ _ _ _ h3 ⟨rfl, hf⟩
        | false =>
          rw [hj] at h1
          simp only [br, cond_true, cond_false, Option.some.injEq] at h1
          subst h1
          have hne : j ≠ id := by rintro rfl; simp at hj
          simp only [Exit.inBlock, if_neg hne]
          exact hQ _ _ _ h3 ⟨rfl, hf⟩
    | r q =>
      simp only at h1
      cases hx : outB n σ' c with
      | none => simp [hx] at h1
      | some b =>
        simp only [hx, Option.some.injEq] at h1
        subst h1
        exact hQ _ _ _ h3 ⟨rfl, σ', h2, hx⟩
theorem once2_ok {P : Program} {rs : List Ty} {rv : List ResultVar} {C : Ctx} {σ0 : St} {asg : List Nat} {c : Cut} {id n bb ff m : Nat} {kv : denL (ktys c.ks)} {body : St → (Ex (denL rs) → St → Option (LO (denL rs) (denL (xtys c.xs)) (denL (btys c.xs)))) → Option (LO (denL rs) (denL (xtys c.xs)) (denL (btys c.xs)))} {code : Code} {a0 : Act}
    (hc : CutOk σ0 asg c) (htk : C.tk = []) (hk : KF C a0.tmps c.ks kv)
    (hbody : ∀ {σ K res w a Q}, body σ K = some res → Sat C σ w a → (∀ e σ' a' w', K e σ' = some res → (∀ j, e = .e j → j ≠ id) → SatE C rs rv e σ' w' a' → Keep asg a a' → Q (exitOf e) a' w') → code.wp P Q a w) {r : LO (denL rs) (denL (xtys c.xs)) (denL (btys c.xs))} {Q : Exit → Act → World → Prop}
    (hQ : ∀ e a' w', Keep asg a0 a' → OutL C rs rv n bb c kv r e a' w' → Q e a' w') {xv : denL (xtys c.xs)} {w : World}
    (he : loopF false id n bb ff c kv body m xv = some r) (hs : Sat C (fill n bb c.ks kv c.xs xv) w a0) : code.wp P Q a0 w := by
  cases m with
  | zero => simp [loopF] at he
  | succ m =>
    simp only [loopF] at he
    refine hbody he hs fun e σ' a' w' h1 hne h2 h3 => ?_
    cases e with
    | n =>
      simp only at h1
      cases hx : outX n bb σ' c with
      | none => simp [hx] at h1
      | some b =>
        simp only [hx, Option.some.injEq] at h1
        subst h1
        exact hQ _ _ _ h3 ⟨rfl, refill hc htk h2 hx hk h3⟩
    | e j =>
      simp only at h1
      cases hx : outX n bb σ' c with
      | none => simp [hx] at h1
      | some b =>
        simp only [hx] at h1
        have hj : Nat.beq j id = false := nbeq (hne j rfl)
        rw [hj] at h1
        simp only [br, cond_true, cond_false, Option.some.injEq] at h1
        subst h1
        exact hQ _ _ _ h3 ⟨rfl, refill hc htk h2 hx hk h3⟩
    | r q =>
      simp only at h1
      cases hx : outB n σ' c with
      | none => simp [hx] at h1
      | some b =>
        simp only [hx, Option.some.injEq] at h1
        subst h1
        exact hQ _ _ _ h3 ⟨rfl, σ', h2, hx⟩
end Go.Proofs.YthlpjdjipchdkaaDoor.E

namespace Go.Proofs.YthlpjdjipchdkaaDoor.E
open Go
set_option linter.unusedSimpArgs false
set_option linter.unusedVariables false
def Fix {α : Type} (P : Program) (s : Sem α) : Prop := ∀ w v w1, s.run P w = .ok v w1 → ∀ w', s.run P w' = .ok v w'
def Never {α : Type} (P : Program) (s : Sem α) : Prop := ∀ w v w1, s.run P w ≠ .ok v w1
section
variable {P : Program}
theorem fix_never {α : Type} {s : Sem α} (h : Never P s) : Fix P s := fun w v w1 e => (h w v w1 e).elim
theorem fix_pure {α : Type} (a : α) : Fix P (pure a : Sem α) := fun w v w1 h w' => by
  simp only [Sem.run_pure, Result.ok.injEq] at h ⊢
  exact ⟨h.1, trivial⟩
theorem andThen_some {α β : Type} {r : Result α} {f : α → World → Result β} {b : β} {w : World} (h : Result.andThen r f = .ok b w) : ∃ a w1, r = .ok a w1 ∧ f a w1 = .ok b w := by
  cases r with
  | ok a w1 => exact ⟨a, w1, rfl, h⟩
  | halt x w1 => cases h
theorem fix_bind {α β : Type} {s : Sem α} {f : α → Sem β} (h1 : Fix P s) (h2 : ∀ a, Fix P (f a)) : Fix P (s >>= f) := by
  intro w v w1 h w'
  rw [Sem.run_bind] at h ⊢
  obtain ⟨a, w2, h3, h4⟩ := andThen_some h
  rw [h1 w a w2 h3 w', Result.andThen_ok]
  exact h2 a w2 v w1 h4 w'
theorem never_bind {α β : Type} {s : Sem α} {f : α → Sem β} (h2 : ∀ a, Never P (f a)) : Never P (s >>= f) := by
  intro w v w1 h
  rw [Sem.run_bind] at h
  obtain ⟨a, w2, h3, h4⟩ := andThen_some h
  exact h2 a w2 v w1 h4
theorem never_stuck {α : Type} (s : String) : Never P (stuck s : Sem α) := fun w v w1 h => by simp [stuck, Sem.run] at h
theorem never_unsup {α : Type} (s : Unsupported) : Never P (unsupported s : Sem α) := fun w v w1 h => by simp [unsupported, Sem.run] at h
theorem never_go {α : Type} (x : Value) : Never P (goPanic x : Sem α) := fun w v w1 h => by simp [goPanic, Sem.run] at h
theorem never_panic {α : Type} (e : RuntimeError) : Never P (runtimePanic e : Sem α) := by
  unfold runtimePanic
  refine never_bind fun p => ?_
  cases e
  case typeAssertion i c a m => exact never_bind fun _ => never_bind fun _ => never_go _
  case panicNil => exact never_bind fun _ => never_bind fun _ => never_go _
  all_goals exact never_go _
theorem never_bounds {α : Type} (k : IntKind) (x y : Int) (c : BoundsCode) : Never P (boundsPanic k x y c : Sem α) := by
  unfold boundsPanic
  dsimp only
  split
  · exact never_bind fun _ => never_panic _
  · exact never_bind fun _ => never_panic _
theorem fix_program : Fix P (program : Sem Program) := fun w v w1 h w' => by
  simp only [program, Sem.run, Result.ok.injEq] at h ⊢
  exact ⟨h.1, trivial⟩
theorem fix_under (t : TypeId) : Fix P (underlying t) := by
  unfold underlying
  refine fix_bind fix_program fun p => ?_
  split
  · exact fix_pure _
  · exact fix_never (never_stuck _)
theorem fix_info (t : TypeId) : Fix P (typeInfo t) := by
  unfold typeInfo
  refine fix_bind fix_program fun p => ?_
  split
  · exact fix_pure _
  · exact fix_never (never_stuck _)
theorem fix_size (t : TypeId) : Fix P (sizeOf t) := fix_bind (fix_info t) fun _ => fix_pure _
theorem fix_agg (t : TypeId) : Fix P (isAgg t) := by
  unfold isAgg
  refine fix_bind (fix_under t) fun d => ?_
  split <;> exact fix_pure _
theorem fix_asBool (v : Value) : Fix P (asBool v) := by
  unfold asBool
  split
  · exact fix_pure _
  · exact fix_never (never_stuck _)
theorem fix_asInt (v : Value) : Fix P (asIntOf v) := by
  unfold asIntOf
  split
  · exact fix_pure _
  · exact fix_never (never_unsup _)
  · exact fix_never (never_stuck _)
theorem fix_asAgg (v : Value) : Fix P (asAgg v) := by
  unfold asAgg
  split
  · exact fix_pure _
  · exact fix_never (never_stuck _)
theorem fix_sure (v : Value) : Fix P (Instr.sureAddr v) := by
  unfold Instr.sureAddr
  split
  · exact fix_pure _
  · exact fix_never (never_stuck _)
theorem fix_part (t : TypeId) (cs : Array Value) (o : Nat) : Fix P (part t cs o) := by
  unfold part
  refine fix_bind (fix_agg t) fun b => ?_
  split
  · exact fix_bind (fix_size t) fun _ => fix_pure _
  · split
    · exact fix_pure _
    · exact fix_never (never_stuck _)
theorem fix_field (t : TypeId) (v : Value) (f : Nat) : Fix P (Instr.field t v f) := by
  unfold Instr.field
  refine fix_bind (fix_under t) fun d => ?_
  split
  · split
    · exact fix_bind (fix_asAgg v) fun _ => fix_part _ _ _
    · exact fix_never (never_stuck _)
  · exact fix_never (never_stuck _)
theorem fix_extract (v : Value) (i : Nat) : Fix P (Instr.extract v i) := by
  unfold Instr.extract
  split
  · split
    · exact fix_pure _
    · exact fix_never (never_stuck _)
  · exact fix_never (never_stuck _)
theorem fix_index (t : TypeId) (x i : Value) : Fix P (Instr.index t x i) := by
  unfold Instr.index
  refine fix_bind (fix_asInt i) fun p => ?_
  obtain ⟨k, i⟩ := p
  refine fix_bind (fix_under t) fun d => ?_
  split
  · split
    · exact fix_bind (fix_size _) fun _ => fix_part _ _ _
    · exact fix_never (never_bounds _ _ _ _)
  · split
    · exact fix_pure _
    · exact fix_never (never_bounds _ _ _ _)
  · exact fix_never (never_stuck _)
theorem fix_indexAt (t : TypeId) (x i : Value) : Fix P (Instr.indexAt t x i) := by
  unfold Instr.indexAt
  refine fix_bind (fix_asInt i) fun p => ?_
  obtain ⟨k, i⟩ := p
  refine fix_bind (fix_under t) fun d => ?_
  have tail : ∀ (base : Option Addr) (len : Nat) (elem : TypeId), Fix P (do
      let d2 ← underlying t
      let tiny : Bool := decide (len ≤ 1) && match d2 with | .array .. => true | _ => false
      match base with
        | some a =>
          if 0 ≤ i ∧ i < (len : Int) then do pure (.pointer (some (a.add (i.toNat * (← sizeOf elem)))))
          else if tiny then unsupported (.noEntry "op/indexAddr.an index out of range at an array of length 0 or 1 (ledger 616)")
          else boundsPanic k i len .index
        | none => boundsPanic k i 0 .index : Sem Value) := by
    intro base len elem
    refine fix_bind (fix_under t) fun d2 => ?_
    dsimp only
    repeat' split
    all_goals first | exact fix_bind (fix_size _) fun _ => fix_pure _ | exact fix_never (never_unsup _) | exact fix_never (never_bounds _ _ _ _)
  dsimp only
  split
  · exact fix_bind (fix_sure _) fun a => fix_bind (fix_pure _) fun q => tail q.1 q.2.1 q.2.2
  · exact fix_bind (fix_pure _) fun q => tail q.1 q.2.1 q.2.2
  · exact fix_bind (fix_never (never_stuck _)) fun q => tail q.1 q.2.1 q.2.2
theorem fix_len {t ty : TypeId} {v : Value} (hv : (∃ s, v = .string s) ∨ ∃ a n c, v = .slice a n c) : Fix P (Builtin.len_ #[t] ty #[v]) := by
  unfold Builtin.len_
  have fin : ∀ arr : TypeId, Fix P (do
      let .array n _ ← underlying arr | stuck "len: pointer to array expected"
      pure (goInt n) : Sem Value) := by
    intro arr
    refine fix_bind (fix_under _) fun d2 => ?_
    split
    · exact fix_pure _
    · exact fix_never (never_stuck _)
  rcases hv with ⟨s, rfl⟩ | ⟨a, n, c, rfl⟩
  · refine fix_bind (fix_under t) fun d => ?_
    cases d <;> first | exact fix_pure _ | exact fix_never (never_stuck _) | exact fin _
  · refine fix_bind (fix_under t) fun d => ?_
    cases d <;> first | exact fix_pure _ | exact fix_never (never_stuck _) | exact fin _
theorem fix_unary (op : UnOp) (v : Value) : Fix P (Op.unary op v) := by
  unfold Op.unary
  split
  · exact fix_pure _
  · exact fix_pure _
  · exact fix_pure _
  · exact fix_pure _
  · exact fix_pure _
  · exact fix_never (never_unsup _)
  · exact fix_never (never_unsup _)
  · exact fix_never (never_stuck _)
end
section
variable {C : Ctx} {I : Set'} {β : Nat → Value} {F : Nat → List Nat} {σ : St} {w : World} {tm : Array Value}
theorem fix_fieldAt {t : TypeId} {f : Nat} (h : fldNZ C.T t f = true) (v : Value) : Fix C.P (Instr.fieldAt t v f) := by
  unfold fldNZ at h
  split at h
  · rename_i fs hu
    split at h
    · rename_i fd hfd
      rw [nthF_eq] at hfd
      have hfd' : fs[f]? = some fd := by simpa using hfd
      have hfp : ∀ a, Fix C.P (fieldPlace a fd) := by
        intro a
        unfold szNZ at h
        split at h
        · rename_i i hi
          have hsz : szB C.T fd.type i.size = true := by simp [szB, hi]
          have hne : i.size ≠ 0 := by intro e; rw [e] at h; simp at h
          intro w u w1 h1 w'
          simp only [fieldPlace, Sem.run_bind, run_size hsz, Result.andThen_ok, if_neg hne, Sem.run_pure, Result.ok.injEq] at h1 ⊢
          exact ⟨h1.1, trivial⟩
        · cases h
      have rest : Fix C.P (do let a ← Instr.sureAddr v; pure (.pointer (some (← fieldPlace a fd))) : Sem Value) := fix_bind (fix_sure v) fun a => fix_bind (hfp a) fun _ => fix_pure _
      intro w u w1 h1 w'
      simp only [Instr.fieldAt, Sem.run_bind, run_underlying (und_ok hu), Result.andThen_ok, hfd'] at h1 ⊢
      have := rest w u w1 (by simpa only [Sem.run_bind] using h1) w'
      simpa only [Sem.run_bind] using this
    · cases h
  · cases h
theorem fix_v {s : Sem Value} (h : Fix C.P s) : Fix C.P (do pure (.value (← s)) : Sem Next) := fix_bind h fun _ => fix_pure _
theorem steady_fix (hi : Inv C I β F σ w tm) {E' : Env} (hT : E'.T = C.T) (hG : E'.G = C.G) {f : FuncId} {o : Oper} (hs : steadyB E' σ o = true) {sv : SV} {σ' : St} (he : opD E' f none o σ = some (true, sv, σ')) : Fix C.P (execOp (evT tm) o) := by
  have hg : Gok tm none := fun d w h => by cases h
  unfold steadyB at hs
  rw [hT, hG] at hs
  cases ho : o.op with
  | move x => unfold execOp; simp only [ho]; exact fix_pure _
  | assign x => unfold execOp; simp only [ho]; exact fix_pure _
  | pick c a b => unfold execOp; simp only [ho]; exact fix_bind (fix_asBool _) fun _ => fix_pure _
  | unOp op t x => unfold execOp; simp only [ho]; exact fix_v (fix_unary _ _)
  | extract x i => unfold execOp; simp only [ho]; exact fix_v (fix_extract _ _)
  | field t x i => unfold execOp; simp only [ho]; exact fix_v (fix_field _ _ _)
  | indexAddr t x i => unfold execOp; simp only [ho]; exact fix_v (fix_indexAt _ _ _)
  | index t x i => unfold execOp; simp only [ho]; exact fix_v (fix_index _ _ _)
  | makeFunc fn a b => unfold execOp; simp only [ho]; exact fix_v (fix_pure _)
  | fieldAddr t x fd =>
    simp only [ho] at hs
    unfold execOp; simp only [ho]; exact fix_v (fix_fieldAt hs _)
  | nilCheck x =>
    simp only [ho] at hs
    have ha := arg_ok hi hg x
    have hp : ∃ a, evT tm x = .pointer (some a) := by
      split at hs
      · rename_i r s hr
        rw [hr] at ha
        obtain ⟨R, o, u, b, base, arr, E', fr, _, _, _, hv, _⟩ := place hi ha
        exact ⟨_, hv⟩
      · rename_i l t y hr
        rw [hr] at ha
        obtain ⟨b, o, arr, E', fr, hv, _⟩ := q_val ha
        exact ⟨_, hv⟩
      · cases hs
    obtain ⟨a, hp⟩ := hp
    unfold execOp; simp only [ho, hp]; exact fix_pure _
  | binOp op t x y q =>
    simp only [ho] at hs
    have ha := arg_ok hi hg x
    have hb := arg_ok hi hg y
    unfold opD at he
    simp only [ho, hT, hG] at he
    split at hs
    · rename_i l1 k n l2 j m hx hy
      rw [hx] at ha; rw [hy] at hb
      have e1 := of_int ha
      have e2 := of_int hb
      rw [hx, hy] at he
      unfold opBin at he
      simp only at he
      split at he
      · rename_i hk
        cases hbin : bin op k n m with
        | none => simp [hbin] at he
        | some p =>
          obtain ⟨c, sv'⟩ := p
          simp only [hbin, Option.some.injEq, Prod.mk.injEq] at he
          obtain ⟨rfl, rfl, rfl⟩ := he
          intro w1 v w2 h w'
          have key : ∀ w, ∃ u, (execOp (evT tm) o).run C.P w = .ok (.value u) w ∧ SVR (hpOf w1) C.L I β σ.r sv' u := by
            intro w
            obtain ⟨u, g1, g2⟩ := bin_ok (C := C) (h := hpOf w1) (L := C.L) (I := I) (β := β) (ρ := σ.r) hk hbin t w
            refine ⟨u, ?_, g2⟩
            unfold execOp
            simp only [ho, e1, e2, Sem.run_bind, eqGuard_int, Result.andThen_ok, g1, Sem.run_pure]
          obtain ⟨u1, g1, g2⟩ := key w1
          obtain ⟨u2, g3, g4⟩ := key w'
          rw [g1] at h
          have hu : u2 = u1 := by
            cases op <;> simp only [bin, Option.some.injEq, Prod.mk.injEq] at hbin <;> (obtain ⟨_, rfl⟩ := hbin; first | exact (of_int g4).trans (of_int g2).symm | exact (of_bool g4).trans (of_bool g2).symm)
          rw [g3, hu]
          simp only [Result.ok.injEq] at h ⊢
          exact ⟨h.1, trivial⟩
      · simp at he
    · rename_i l1 n l2 m hx hy
      rw [hx] at ha; rw [hy] at hb
      have e1 := of_str ha
      have e2 := of_str hb
      rw [hx, hy] at he
      unfold opBin at he
      simp only at he
      cases hbin : binStr op n m with
      | none => simp [hbin] at he
      | some p =>
        obtain ⟨c, sv'⟩ := p
        simp only [hbin, Option.some.injEq, Prod.mk.injEq] at he
        obtain ⟨rfl, rfl, rfl⟩ := he
        intro w1 v w2 h w'
        have key : ∀ w, ∃ u, (execOp (evT tm) o).run C.P w = .ok (.value u) w ∧ SVR (hpOf w1) C.L I β σ.r sv' u := by
          intro w
          obtain ⟨u, g1, g2⟩ := binStr_ok (C := C) (h := hpOf w1) (L := C.L) (I := I) (β := β) (ρ := σ.r) hbin t w
          refine ⟨u, ?_, g2⟩
          unfold execOp
          simp only [ho, e1, e2, Sem.run_bind, eqGuard_str, Result.andThen_ok, g1, Sem.run_pure]
        obtain ⟨u1, g1, g2⟩ := key w1
        obtain ⟨u2, g3, g4⟩ := key w'
        rw [g1] at h
        have hu : u2 = u1 := by
          cases op <;> simp only [binStr, Option.some.injEq, Prod.mk.injEq, reduceCtorEq] at hbin <;> (obtain ⟨_, rfl⟩ := hbin; first | exact (of_str g4).trans (of_str g2).symm | exact (of_bool g4).trans (of_bool g2).symm)
        rw [g3, hu]
        simp only [Result.ok.injEq] at h ⊢
        exact ⟨h.1, trivial⟩
    · cases hs
  | convert s t x =>
    simp only [ho] at hs
    have ha := arg_ok hi hg x
    unfold opD at he
    simp only [ho, hT, hG] at he
    split at hs
    · rename_i k l j n hut hx
      rw [hx] at ha
      have e1 := of_int ha
      rw [hx] at he
      unfold opConv at he
      cases hus : und C.T s with
      | none => simp [hus] at he
      | some ds =>
        unfold execOp
        simp only [ho]
        refine fix_v ?_
        rw [e1]
        intro w1 v w2 h w'
        rw [conv_int (und_ok hus) (und_ok hut)] at h ⊢
        simp only [Result.ok.injEq] at h ⊢
        exact ⟨h.1, trivial⟩
    · cases hs
  | call c =>
    simp only [ho] at hs
    split at hs
    · rename_i x hcal hargs
      have ha := arg_ok hi hg x
      have hv : (∃ s, evT tm x = .string s) ∨ ∃ a n c, evT tm x = .slice a n c := by
        split at hs
        · rename_i l s hx; rw [hx] at ha; exact .inl ⟨_, of_str ha⟩
        · rename_i l ow t xs hx
          rw [hx] at ha
          obtain ⟨cs, hr, hv, _⟩ := ha
          obtain ⟨a, c, e, _⟩ := hr
          rw [hv, e]
          exact .inr ⟨_, _, _, rfl⟩
        · rename_i r hx
          rw [hx] at ha
          obtain ⟨f', l, t, xs, h1, h2⟩ := ha
          obtain ⟨a, c, e1, _⟩ := sl_shape (hi.roots r _ h1).1
          exact .inr ⟨_, _, _, h2.trans e1⟩
        · rename_i r lo n hx
          rw [hx] at ha
          obtain ⟨f', l, t, xs, h1, h2, a, m, c, a', c', _, h3, _⟩ := ha
          exact .inr ⟨_, _, _, h3⟩
        · rename_i hx
          rw [hx] at ha
          obtain ⟨a, h⟩ : ∃ a, evT tm x = .slice a 0 0 := ha
          exact .inr ⟨_, _, _, h⟩
        · cases hs
      unfold opD at he
      simp only [ho, hcal, hargs, hT, hG] at he
      split at he
      · rename_i x' t hx' hat
        simp only [List.cons.injEq, and_true] at hx'
        subst hx'
        have h1 : c.argTypes = #[t] := Array.toList_inj.1 hat
        have hrun : ∀ w, (execOp (evT tm) o).run C.P w = ((do pure (.value (← Builtin.len_ #[t] o.type #[evT tm x])) : Sem Next)).run C.P w := by
          intro w
          obtain ⟨k, hk⟩ := exec_builtin (C := C) (tm := tm) ho hcal w
          rw [hk, map_toList (f := evT tm) hargs, h1]
          rfl
        intro w1 v w2 h w'
        rw [hrun] at h ⊢
        exact fix_v (fix_len hv) w1 v w2 h w'
      · simp at he
    · cases hs
  | _ => simp [ho] at hs
theorem steady_ok (hi : Inv C I β F σ w tm) {E' : Env} (hT : E'.T = C.T) (hG : E'.G = C.G) {f : FuncId} {o : Oper} (hq : quietO E'.T o = true) (hs : steadyB E' σ o = true) {sv : SV} {σ' : St} (he : opD E' f none o σ = some (true, sv, σ')) :
    ∃ v, (∀ w', (execOp (evT tm) o).run C.P w' = .ok (.value v) w') ∧ SVR (hpOf w) C.L I β σ.r sv v := by
  obtain ⟨v, h1, _, h2⟩ := opQ_ok hi (fun d w h => by cases h) hT hG hq he
  exact ⟨v, steady_fix hi hT hG hs he w _ w h1, h2⟩
end
end Go.Proofs.YthlpjdjipchdkaaDoor.E

namespace Go.Proofs.YthlpjdjipchdkaaDoor.E
open Go
set_option linter.unusedSimpArgs false
set_option linter.unusedVariables false
theorem tb_eq (m n : Nat) : tb m n = m.testBit n := by
  unfold tb Nat.testBit
  have h : Nat.land (Nat.shiftRight m n) 1 = 1 &&& (m >>> n) := by
    show (m >>> n) &&& 1 = 1 &&& (m >>> n)
    exact Nat.and_comm _ _
  rw [h]
  have h2 : (1 &&& (m >>> n)) = 0 ∨ (1 &&& (m >>> n)) = 1 := by
    rw [Nat.and_comm, Nat.and_one_is_mod]; omega
  rcases h2 with h2 | h2 <;> rw [h2] <;> rfl
theorem tb_set (m i j : Nat) : tb (setB m i) j = (tb m j || decide (i = j)) := by
  rw [tb_eq, tb_eq]
  have : setB m i = m ||| (1 <<< i) := rfl
  rw [this, Nat.testBit_or, Nat.one_shiftLeft, Nat.testBit_two_pow]
theorem tb_zero (j : Nat) : tb 0 j = false := by rw [tb_eq]; simp
theorem forceN_eq {R : Type} (n : Nat) (K : Nat → R) : forceN n K = K n := by cases n <;> rfl
def Still {α : Type} (P : Program) (s : Sem α) : Prop := ∀ w v w1, s.run P w = .ok v w1 → w1 = w
section
variable {P : Program}
theorem Fix.keep {α : Type} {s : Sem α} (h : Fix P s) : Still P s := fun w v w1 e => by
  have := h w v w1 e w
  rw [e] at this
  simp only [Result.ok.injEq] at this
  exact this.2
theorem keep_bind {α β : Type} {s : Sem α} {f : α → Sem β} (h1 : Still P s) (h2 : ∀ a, Still P (f a)) : Still P (s >>= f) := by
  intro w v w1 h
  rw [Sem.run_bind] at h
  obtain ⟨a, w2, h3, h4⟩ := andThen_some h
  exact (h2 a w2 v w1 h4).trans (h1 w a w2 h3)
theorem keep_pure {α : Type} (a : α) : Still P (pure a : Sem α) := (fix_pure a).keep
theorem keep_never {α : Type} {s : Sem α} (h : Never P s) : Still P s := (fix_never h).keep
theorem keep_load (a : Addr) : Still P (load a) := fun w v w1 h => by
  unfold load Sem.run at h
  split at h
  · have := (keep_pure (P := P) _) w _ _ h
    exact this
  · split at h
    · exact (keep_pure (P := P) _) w _ _ h
    · cases h
theorem keep_cells (a : Addr) : ∀ (n i : Nat) (acc : Array Value), Still P (loadCellsFrom a i n acc)
  | 0, i, acc => by unfold loadCellsFrom; exact keep_pure _
  | n + 1, i, acc => by
    unfold loadCellsFrom
    exact keep_bind (keep_load _) fun v => keep_cells a n (i + 1) _
theorem keep_loadAt (t : TypeId) (v : Value) : Still P (Instr.loadAt t v) := by
  unfold Instr.loadAt
  refine keep_bind (fix_sure v).keep fun a => ?_
  unfold loadVar
  refine keep_bind (fix_agg t).keep fun b => ?_
  split
  · exact keep_bind (fix_size t).keep fun n => keep_bind (keep_cells _ _ _ _) fun _ => keep_pure _
  · exact keep_load a
theorem keep_fix {α : Type} {s : Sem α} (h : Fix P s) : Still P s := h.keep
theorem keep_mapM {α β : Type} {g : α → Sem β} (h : ∀ a, Still P (g a)) (L : Array α) : Still P (L.mapM g) := by
  rw [Array.mapM_eq_foldlM, ← Array.foldlM_toList]
  generalize (#[] : Array β) = acc
  generalize L.toList = l
  induction l generalizing acc with
  | nil => exact keep_pure _
  | cons a l ih =>
    rw [List.foldlM_cons]
    exact keep_bind (keep_bind (h a) fun _ => keep_pure _) fun acc => ih acc
theorem fix_zero (t : TypeId) : Fix P (zeroValue t) := by
  unfold zeroValue
  refine fix_bind (fix_info t) fun i => ?_
  split
  · exact fix_pure _
  · exact fix_never (never_unsup _)
theorem keep_build (t : TypeId) (parts : Array (Nat × Value)) : Still P (Instr.build t parts) := by
  unfold Instr.build
  repeat' first | exact keep_fix (fix_zero _) | exact keep_mapM (fun a => keep_bind (keep_fix (fix_size _)) fun _ => keep_pure _) _ | exact keep_pure _ | exact keep_never (never_stuck _) | exact keep_fix (fix_under _) | exact keep_fix (fix_size _) | (refine keep_bind ?_ (fun _ => ?_)) | split | dsimp only
def Grow (w w' : World) : Prop := ∀ (r : Nat) (o : Obj), w.heap[r]? = some o → w'.heap[r]? = some o
theorem Grow.refl (w : World) : Grow w w := fun _ _ h => h
theorem Grow.trans {a b c : World} (h1 : Grow a b) (h2 : Grow b c) : Grow a c := fun r o h => h2 r o (h1 r o h)
def Grows {α : Type} (P : Program) (s : Sem α) : Prop := ∀ w v w1, s.run P w = .ok v w1 → Grow w w1
theorem Still.grows {α : Type} {s : Sem α} (h : Still P s) : Grows P s := fun w v w1 e => by rw [h w v w1 e]; exact Grow.refl w
theorem grows_bind {α β : Type} {s : Sem α} {f : α → Sem β} (h1 : Grows P s) (h2 : ∀ a, Grows P (f a)) : Grows P (s >>= f) := by
  intro w v w1 h
  rw [Sem.run_bind] at h
  obtain ⟨a, w2, h3, h4⟩ := andThen_some h
  exact (h1 w a w2 h3).trans (h2 a w2 v w1 h4)
theorem grows_new (o : Obj) : Grows P (newObj o) := fun w v w1 h => by
  unfold newObj at h
  simp only [Sem.run, Result.ok.injEq] at h
  obtain ⟨_, rfl⟩ := h
  intro r o' hr
  show (w.heap.push o)[r]? = some o'
  obtain ⟨hlt, _⟩ := Array.getElem?_eq_some_iff.1 hr
  simp [Array.getElem?_push, Nat.ne_of_lt hlt, hr]
def Mono {α : Type} (P : Program) (s : Sem α) : Prop := ∀ w v w1, s.run P w = .ok v w1 → w1 = w ∧ ∀ w', Grow w w' → s.run P w' = .ok v w'
theorem Fix.mono {α : Type} {s : Sem α} (h : Fix P s) : Mono P s := fun w v w1 e => ⟨h.keep w v w1 e, fun w' _ => h w v w1 e w'⟩
theorem mono_bind {α β : Type} {s : Sem α} {f : α → Sem β} (h1 : Mono P s) (h2 : ∀ a, Mono P (f a)) : Mono P (s >>= f) := by
  intro w v w1 h
  rw [Sem.run_bind] at h
  obtain ⟨a, w2, h3, h4⟩ := andThen_some h
  obtain ⟨rfl, h5⟩ := h1 w a w2 h3
  obtain ⟨rfl, h6⟩ := h2 a w2 v w1 h4
  refine ⟨rfl, fun w' g => ?_⟩
  rw [Sem.run_bind, h5 w' g, Result.andThen_ok, h6 w' g]
theorem mono_pure {α : Type} (a : α) : Mono P (pure a : Sem α) := (fix_pure a).mono
theorem mono_never {α : Type} {s : Sem α} (h : Never P s) : Mono P s := (fix_never h).mono
theorem mono_getObj (r : Nat) : Mono P (getObj r) := fun w v w1 h => by
  unfold getObj at h ⊢
  simp only [Sem.run] at h
  split at h
  · cases h
  · rename_i o hc ho
    have h' : w.heap[r]? = some o ∧ v = o ∧ w1 = w := by
      have h2 : (pure o : Sem Obj).run P w = .ok v w1 := h
      simp only [Sem.run_pure, Result.ok.injEq] at h2
      exact ⟨ho, h2.1.symm, h2.2.symm⟩
    obtain ⟨_, rfl, rfl⟩ := h'
    refine ⟨rfl, fun w' g => ?_⟩
    have g' := g r _ ho
    simp only [Sem.run, g']
  · cases h
theorem viewLoad_grow {p : Program} {w w' : World} {a k : Addr} {u : TypeId} {b : Bool} {x : Value × List Addr} (g : Grow w w') (h : w.viewLoad p a u k b = .ok x) : w'.viewLoad p a u k b = .ok x := by
  cases hb : w.heap[a.block]? with
  | some o =>
    have hb' := g _ _ hb
    have e : w'.seen p a u k b = w.seen p a u k b := by unfold World.seen; rw [hb, hb']
    unfold World.viewLoad at h ⊢
    rw [e]; exact h
  | none =>
    exfalso
    have e : ∀ y, w.seen p a u k b ≠ .ok y := by
      intro y hy
      unfold World.seen at hy
      simp only [hb] at hy
      revert hy
      repeat' first | (intro hy; cases hy; done) | (intro hy; simp [bind, Except.bind, throw, throwThe, MonadExceptOf.throw, pure, Except.pure] at hy; done) | split
    unfold World.viewLoad at h
    cases hs : w.seen p a u k b with
    | error e' => rw [hs] at h; cases h
    | ok y => exact e y hs
theorem mono_load (a : Addr) : Mono P (load a) := fun w v w1 h => by
  unfold load at h ⊢
  simp only [Sem.run] at h
  have hp : ∀ x : Value, (Sem.pure x).run P w = .ok v w1 → v = x ∧ w1 = w := fun x hx => by
    have h2 : (pure x : Sem Value).run P w = .ok v w1 := hx
    simp only [Sem.run_pure, Result.ok.injEq] at h2
    exact ⟨h2.1.symm, h2.2.symm⟩
  split at h
  · rename_i x hc
    obtain ⟨rfl, rfl⟩ := hp _ h
    refine ⟨rfl, fun w' g => ?_⟩
    have hc' : w'.cell? a = some v := by
      unfold World.cell? at hc ⊢
      split at hc
      · rename_i ho; rw [g _ _ ho]; exact hc
      · cases hc
    simp only [Sem.run, hc']
  · rename_i hc
    split at h
    · rename_i x l hf
      obtain ⟨rfl, rfl⟩ := hp _ h
      refine ⟨rfl, fun w' g => ?_⟩
      unfold World.farLoad at hf
      split at hf
      · rename_i a' u ho
        have ho' := g _ _ ho
        have hc' : w'.cell? a = none := by unfold World.cell?; rw [ho']
        split at hf
        · rename_i r hr
          have hv := viewLoad_grow g hr
          cases hf
          simp only [Sem.run, hc', World.farLoad, ho', hv]
        · cases hf
      · cases hf
    · cases h
theorem mono_cells (a : Addr) : ∀ (n i : Nat) (acc : Array Value), Mono P (loadCellsFrom a i n acc)
  | 0, i, acc => by unfold loadCellsFrom; exact mono_pure _
  | n + 1, i, acc => by
    unfold loadCellsFrom
    exact mono_bind (mono_load _) fun v => mono_cells a n (i + 1) _
theorem mono_loadAt (t : TypeId) (v : Value) : Mono P (Instr.loadAt t v) := by
  unfold Instr.loadAt
  refine mono_bind (fix_sure v).mono fun a => ?_
  unfold loadVar
  refine mono_bind (fix_agg t).mono fun b => ?_
  split
  · exact mono_bind (fix_size t).mono fun n => mono_bind (mono_cells _ _ _ _) fun _ => mono_pure _
  · exact mono_load a
theorem Mono.still {α : Type} {s : Sem α} (h : Mono P s) : Still P s := fun w v w1 e => (h w v w1 e).1
theorem mono_shape {α : Type} {r : Nat} {f : Option (TypeId × Nat) → Sem α} (hn : ∀ w v w1, w.heap[r]? = none → (f none).run P w ≠ .ok v w1) (hf : ∀ s, Mono P (f s)) : Mono P (shape r >>= f) := by
  intro w v w1 h
  have hs : ∀ w : World, (shape r >>= f).run P w = (f (w.shape? r)).run P w := fun w => rfl
  rw [hs] at h
  cases hr : w.heap[r]? with
  | none =>
    have : w.shape? r = none := by unfold World.shape?; rw [hr]
    rw [this] at h
    exact (hn w v w1 hr h).elim
  | some o =>
    obtain ⟨rfl, h2⟩ := hf _ w v w1 h
    refine ⟨rfl, fun w' g => ?_⟩
    rw [hs]
    have : w'.shape? r = w1.shape? r := by unfold World.shape?; rw [hr, g _ _ hr]
    rw [this]; exact h2 w' g
theorem mono_program : Mono P (program : Sem Program) := fix_program.mono
theorem mono_fix {α : Type} {s : Sem α} (h : Fix P s) : Mono P s := h.mono
theorem getObj_none {r : Nat} {w : World} {α : Type} {f : Obj → Sem α} {v : α} {w1 : World} (h : w.heap[r]? = none) : (getObj r >>= f).run P w ≠ .ok v w1 := by
  have : (getObj r >>= f).run P w = .halt (.stuck "getObj: no such block") w := by
    rw [Sem.run_bind]
    have : (getObj r).run P w = .halt (.stuck "getObj: no such block") w := by
      unfold getObj
      simp only [Sem.run, h]
    rw [this]; rfl
  rw [this]; intro e; cases e
theorem mono_viewAt (r : Nat) : Mono P (viewAt r) := by
  unfold viewAt
  refine mono_shape (fun w v w1 h => getObj_none h) fun s => ?_
  repeat' (first | exact mono_pure _ | exact mono_never (never_stuck _) | exact mono_never (never_unsup _) | exact mono_never (never_panic _) | exact mono_getObj _ | exact mono_program | exact mono_fix (fix_info _) | exact mono_fix (fix_under _) | exact mono_fix (fix_size _) | exact mono_fix (fix_part _ _ _) | (refine mono_bind ?_ (fun _ => ?_)) | split | dsimp only)
theorem mono_numberAt (r : Nat) : Mono P (numberAt r) := by
  unfold numberAt
  refine mono_shape (fun w v w1 h => getObj_none h) fun s => ?_
  repeat' (first | exact mono_pure _ | exact mono_never (never_stuck _) | exact mono_never (never_unsup _) | exact mono_never (never_panic _) | exact mono_getObj _ | exact mono_program | exact mono_fix (fix_info _) | exact mono_fix (fix_under _) | exact mono_fix (fix_size _) | exact mono_fix (fix_part _ _ _) | (refine mono_bind ?_ (fun _ => ?_)) | split | dsimp only)
theorem mono_behind (a : Addr) : Mono P (behindNumber a) := by
  unfold behindNumber
  exact mono_bind (mono_numberAt _) fun _ => mono_pure _
theorem mono_noView (a : Addr) : Mono P (noView a) := by
  unfold noView
  refine mono_bind (mono_viewAt _) fun _ => ?_
  repeat' (first | exact mono_pure _ | exact mono_never (never_stuck _) | exact mono_never (never_unsup _) | exact mono_never (never_panic _) | exact mono_getObj _ | exact mono_program | exact mono_fix (fix_info _) | exact mono_fix (fix_under _) | exact mono_fix (fix_size _) | exact mono_fix (fix_part _ _ _) | (refine mono_bind ?_ (fun _ => ?_)) | split | dsimp only)
theorem mono_byteOf (a : Addr) : Mono P (byteOf a) := by
  unfold byteOf
  repeat' first | exact mono_noView _ | (refine mono_shape (fun w v w1 _ => never_stuck _ w v w1) fun s => ?_) | (first | exact mono_pure _ | exact mono_never (never_stuck _) | exact mono_never (never_unsup _) | exact mono_never (never_panic _) | exact mono_getObj _ | exact mono_program | exact mono_fix (fix_info _) | exact mono_fix (fix_under _) | exact mono_fix (fix_size _) | exact mono_fix (fix_part _ _ _) | (refine mono_bind ?_ (fun _ => ?_)) | split | dsimp only)
theorem mono_forIn {α β : Type} {g : α → β → Sem (ForInStep β)} : ∀ {L : List α}, (∀ f ∈ L, ∀ b, Mono P (g f b)) → ∀ b, Mono P (forIn L b g)
  | [], _, b => by simp only [List.forIn_nil]; exact mono_pure _
  | f :: L, h, b => by
    rw [List.forIn_cons]
    refine mono_bind (h f (by simp) b) fun r => ?_
    cases r with
    | done b => exact mono_pure _
    | yield b => exact mono_forIn (fun f hf => h f (by simp [hf])) b
theorem allP_mem {g : TypeId → Bool} : ∀ {l : List Field}, allP g l = true → ∀ f ∈ l, g f.type = true
  | [], _, f, hf => by simp at hf
  | x :: l, h, f, hf => by
    simp only [allP, Bool.and_eq_true] at h
    rcases List.mem_cons.1 hf with rfl | hf
    · exact h.1
    · exact allP_mem h.2 f hf
section
variable {C : Ctx}
theorem plainK_cases {n : Nat} {t : TypeId} (h : plainK C.T n t = true) : ∃ m, n = m + 1 ∧ (C.P.underlying t = some .string ∨ C.P.underlying t = some .bool ∨ (∃ k, C.P.underlying t = some (.int k)) ∨ ∃ fs : Array Field, C.P.underlying t = some (.struct fs) ∧ ∀ f ∈ fs.toList, plainK C.T m f.type = true) := by
  cases n with
  | zero => simp [plainK] at h
  | succ m =>
    refine ⟨m, rfl, ?_⟩
    unfold plainK at h
    split at h
    · rename_i hu; exact .inl (und_ok hu)
    · rename_i hu; exact .inr (.inl (und_ok hu))
    · rename_i hu; exact .inr (.inr (.inl ⟨_, und_ok hu⟩))
    · rename_i hu; exact .inr (.inr (.inr ⟨_, und_ok hu, allP_mem h⟩))
    · cases h
theorem mono_under {α : Type} {t : TypeId} {d : TypeDesc} {f : TypeDesc → Sem α} (hu : P.underlying t = some d) (h : Mono P (f d)) : Mono P (do let d ← underlying t; f d) := by
  intro w v w1 e
  rw [Sem.run_bind, run_underlying hu, Result.andThen_ok] at e
  obtain ⟨h1, h2⟩ := h w v w1 e
  exact ⟨h1, fun w' g => by rw [Sem.run_bind, run_underlying hu, Result.andThen_ok]; exact h2 w' g⟩
theorem mono_equalIn : ∀ (d n : Nat) {t : TypeId}, plainK C.T n t = true → ∀ x y : Value, Mono C.P (Op.equalIn d t x y)
  | 0, n, t, h, x, y => by unfold Op.equalIn; exact mono_never (never_unsup _)
  | d + 1, n, t, h, x, y => by
    obtain ⟨m, rfl, hu | hu | ⟨k, hu⟩ | ⟨fs, hu, hfs⟩⟩ := plainK_cases h
    · unfold Op.equalIn
      refine mono_under hu ?_
      cases x <;> cases y <;> first | exact mono_pure _ | exact mono_never (never_stuck _)
    · unfold Op.equalIn
      refine mono_under hu ?_
      cases x <;> cases y <;> first | exact mono_pure _ | exact mono_never (never_stuck _)
    · unfold Op.equalIn
      refine mono_under hu ?_
      dsimp only
      repeat' first | contradiction | exact mono_behind _ | exact mono_byteOf _ | (first | exact mono_pure _ | exact mono_never (never_stuck _) | exact mono_never (never_unsup _) | exact mono_never (never_panic _) | exact mono_getObj _ | exact mono_program | exact mono_fix (fix_info _) | exact mono_fix (fix_under _) | exact mono_fix (fix_size _) | exact mono_fix (fix_part _ _ _) | (refine mono_bind ?_ (fun _ => ?_)) | split | dsimp only)
    · unfold Op.equalIn
      refine mono_under hu ?_
      have hf : ∀ f ∈ fs.toList, ∀ x y, Mono C.P (Op.equalIn d f.type x y) := fun f hf x y => mono_equalIn d m (hfs f hf) x y
      cases x <;> cases y <;> (try exact mono_never (never_stuck _))
      dsimp only
      refine mono_bind mono_program fun p => ?_
      split
      · exact mono_bind (mono_never (never_unsup _)) fun _ => by
          refine mono_bind ?_ fun r => by repeat' (first | exact mono_pure _ | exact mono_never (never_stuck _) | exact mono_never (never_unsup _) | exact mono_never (never_panic _) | exact mono_getObj _ | exact mono_program | exact mono_fix (fix_info _) | exact mono_fix (fix_under _) | exact mono_fix (fix_size _) | exact mono_fix (fix_part _ _ _) | (refine mono_bind ?_ (fun _ => ?_)) | split | dsimp only)
          rw [← Array.forIn_toList]
          refine mono_forIn (fun f hf' b => ?_) _
          repeat' first | exact hf _ (by assumption) _ _ | (first | exact mono_pure _ | exact mono_never (never_stuck _) | exact mono_never (never_unsup _) | exact mono_never (never_panic _) | exact mono_getObj _ | exact mono_program | exact mono_fix (fix_info _) | exact mono_fix (fix_under _) | exact mono_fix (fix_size _) | exact mono_fix (fix_part _ _ _) | (refine mono_bind ?_ (fun _ => ?_)) | split | dsimp only)
      · refine mono_bind ?_ fun r => by repeat' (first | exact mono_pure _ | exact mono_never (never_stuck _) | exact mono_never (never_unsup _) | exact mono_never (never_panic _) | exact mono_getObj _ | exact mono_program | exact mono_fix (fix_info _) | exact mono_fix (fix_under _) | exact mono_fix (fix_size _) | exact mono_fix (fix_part _ _ _) | (refine mono_bind ?_ (fun _ => ?_)) | split | dsimp only)
        rw [← Array.forIn_toList]
        refine mono_forIn (fun f hf' b => ?_) _
        repeat' first | exact hf _ (by assumption) _ _ | (first | exact mono_pure _ | exact mono_never (never_stuck _) | exact mono_never (never_unsup _) | exact mono_never (never_panic _) | exact mono_getObj _ | exact mono_program | exact mono_fix (fix_info _) | exact mono_fix (fix_under _) | exact mono_fix (fix_size _) | exact mono_fix (fix_part _ _ _) | (refine mono_bind ?_ (fun _ => ?_)) | split | dsimp only)
theorem mono_equalP {n : Nat} {t : TypeId} (h : plainK C.T n t = true) (x y : Value) : Mono C.P (Op.equal t x y) := mono_equalIn _ n h x y
theorem mono_findAsking {n : Nat} {t : TypeId} (ht : plainK C.T n t = true) (k : Value) : ∀ (es : List MapEntry) (i : Nat), Mono C.P (Instr.findAsking t k es i)
  | [], i => by unfold Instr.findAsking; exact mono_pure _
  | e :: es, i => by
    unfold Instr.findAsking
    refine mono_bind (mono_equalP ht k e.key) fun b => ?_
    split
    · exact mono_pure _
    · exact mono_findAsking ht k es (i + 1)
theorem mono_findKey {n : Nat} {t : TypeId} (ht : plainK C.T n t = true) (k : Value) (es : List MapEntry) : Mono C.P (Instr.findKey t k es) := by
  unfold Instr.findKey
  refine mono_bind (fix_under t).mono fun d => ?_
  split
  · exact mono_pure _
  · exact mono_findAsking ht k es 0
theorem mono_checkKey (e : Bool) : ∀ (d n : Nat) {t : TypeId}, plainK C.T n t = true → ∀ k : Value, Mono C.P (Instr.checkKey e d t k)
  | 0, n, t, h, k => by unfold Instr.checkKey; exact mono_never (never_unsup _)
  | d + 1, n, t, h, k => by
    obtain ⟨m, rfl, hu | hu | ⟨k', hu⟩ | ⟨fs, hu, hfs⟩⟩ := plainK_cases h
    · unfold Instr.checkKey
      refine mono_under hu ?_
      cases k <;> first | exact mono_pure _ | exact mono_never (never_stuck _)
    · unfold Instr.checkKey
      refine mono_under hu ?_
      cases k <;> first | exact mono_pure _ | exact mono_never (never_stuck _)
    · unfold Instr.checkKey
      refine mono_under hu ?_
      cases k <;> first | exact mono_pure _ | exact mono_never (never_stuck _)
    · unfold Instr.checkKey
      refine mono_under hu ?_
      have hf : ∀ f ∈ fs.toList, ∀ x, Mono C.P (Instr.checkKey e d f.type x) := fun f hf x => mono_checkKey e d m (hfs f hf) x
      cases k <;> (try exact mono_never (never_stuck _))
      dsimp only
      refine mono_bind ?_ fun r => mono_pure _
      rw [← Array.forIn_toList]
      refine mono_forIn (fun f hf' b => ?_) _
      repeat' first | exact hf _ (by assumption) _ | (first | exact mono_pure _ | exact mono_never (never_stuck _) | exact mono_never (never_unsup _) | exact mono_never (never_panic _) | exact mono_getObj _ | exact mono_program | exact mono_fix (fix_info _) | exact mono_fix (fix_under _) | exact mono_fix (fix_size _) | exact mono_fix (fix_part _ _ _) | (refine mono_bind ?_ (fun _ => ?_)) | split | dsimp only)
end
theorem mono_lookup {C : Ctx} {n : Nat} {t k e : TypeId} (hm : C.P.underlying t = some (.map k e)) (hk : plainK C.T n k = true) (x y : Value) (ok : Bool) : Mono C.P (Instr.lookup t x y ok) := by
  unfold Instr.lookup
  refine mono_under hm ?_
  have rest : ∀ es : Array MapEntry, Mono C.P (do
      Instr.checkKey es.isEmpty 10000 k y
      let (v, ok') ← match ← Instr.findKey k y es.toList with
        | some (_, v) => pure (v, true)
        | none => pure (← zeroValue e, false)
      pure (if ok then .tuple #[v, .bool ok'] else v) : Sem Value) := by
    intro es
    refine mono_bind (mono_checkKey _ _ _ hk _) fun _ => mono_bind (mono_findKey hk _ _) fun r => ?_
    cases r with
    | some p => exact mono_bind (mono_pure _) fun q => mono_pure _
    | none => exact mono_bind (fix_zero e).mono fun z => mono_bind (mono_pure _) fun q => mono_pure _
  have fin : ∀ s : Sem Value, (s = stuck "Lookup: map expected") → Mono C.P s := fun s e => by rw [e]; exact mono_never (never_stuck _)
  dsimp only
  split
  · exact mono_bind (mono_pure _) fun es => rest es
  · refine mono_bind (mono_getObj _) fun o => ?_
    split
    · first | exact mono_bind (mono_pure _) fun es => rest es | exact rest _
    · first | exact mono_never (never_stuck _) | exact mono_never (never_bind fun _ => never_stuck _) | exact mono_bind (mono_never (never_stuck _)) fun es => rest es
  · first | exact mono_never (never_stuck _) | exact mono_bind (mono_never (never_stuck _)) fun es => rest es
def KeepO (P : Program) (o : Oper) : Prop := ∀ (ρ : Operand → Value) w n w1, (execOp ρ o).run P w = .ok n w1 → Grow w w1 ∧ ∃ v, n = .value v
theorem grows_v {s : Sem Value} (h : Grows P s) (w : World) (n : Next) (w1 : World) (e : (do pure (.value (← s)) : Sem Next).run P w = .ok n w1) : Grow w w1 ∧ ∃ v, n = .value v := by
  rw [Sem.run_bind] at e
  obtain ⟨a, w2, h3, h4⟩ := andThen_some e
  simp only [Sem.run_pure, Result.ok.injEq] at h4
  obtain ⟨rfl, rfl⟩ := h4
  exact ⟨h w a _ h3, a, rfl⟩
theorem keep_v {s : Sem Value} (h : Still P s) (w : World) (n : Next) (w1 : World) (e : (do pure (.value (← s)) : Sem Next).run P w = .ok n w1) : Grow w w1 ∧ ∃ v, n = .value v := grows_v h.grows w n w1 e
theorem grows_never {α : Type} {s : Sem α} (h : Never P s) : Grows P s := (keep_never h).grows
theorem grows_pure {α : Type} (a : α) : Grows P (pure a : Sem α) := (keep_pure a).grows
theorem grows_fix {α : Type} {s : Sem α} (h : Fix P s) : Grows P s := h.keep.grows
theorem grows_row (t : TypeId) (cs : Array Value) : Grows P (newRow t cs) := by
  unfold newRow
  exact grows_bind (grows_new _) fun _ => grows_pure _
theorem grows_choose (q : Question) : Grows P (choose q) := fun w v w1 h => by
  unfold choose at h
  simp only [Sem.run] at h
  have hp : ∀ (x : Nat) (w w' : World), (Sem.pure x).run P w = .ok v w' → w' = w := fun x w w' hx => by
    have h2 : (pure x : Sem Nat).run P w = .ok v w' := hx
    simp only [Sem.run_pure, Result.ok.injEq] at h2
    exact h2.2.symm
  split at h
  · rw [hp _ _ _ h]; exact Grow.refl w
  · rw [hp _ _ _ h]; exact fun _ _ h => h
theorem grows_room (n : Nat) : Grows P (askRoom n) := by
  unfold askRoom
  split
  · intro w v w1 h
    unfold mark at h
    simp only [Sem.run] at h
    have h2 : (pure () : Sem Unit).run P w = .ok v w1 := h
    simp only [Sem.run_pure, Result.ok.injEq] at h2
    rw [← h2.2]; exact Grow.refl w
  · exact grows_pure _
theorem grows_alloc (t : TypeId) : Grows P (Instr.alloc t true (.tuple #[])) := by
  unfold Instr.alloc
  refine grows_bind (grows_fix (fix_zero _)) fun z => ?_
  dsimp only
  exact grows_bind (grows_row _ _) fun _ => grows_pure _
theorem grows_box (t : TypeId) (v : Value) : Grows P (Instr.box t v) := by
  unfold Instr.box
  exact grows_bind (grows_row _ _) fun _ => grows_pure _
theorem grows_buildSlice (t : TypeId) (n : Nat) (parts : Array (Nat × Value)) : Grows P (Instr.buildSlice t n parts) := by
  unfold Instr.buildSlice
  repeat' (first | exact grows_pure _ | exact grows_never (never_stuck _) | exact grows_never (never_unsup _) | exact grows_never (never_panic _) | exact grows_row _ _ | exact grows_room _ | exact grows_choose _ | exact grows_fix (fix_zero _) | exact grows_fix (fix_under _) | exact grows_fix (fix_info _) | exact grows_fix (fix_size _) | (refine grows_bind ?_ (fun _ => ?_)) | split | dsimp only)
theorem cand_mono {C : Ctx} {o : Oper} (h : candO C.T o = true) (ρ : Operand → Value) : Mono C.P (execOp ρ o) := by
  unfold candO at h
  unfold execOp
  cases ho : o.op with
  | load t a => simp only; exact mono_bind (mono_loadAt _ _) fun _ => mono_pure _
  | lookup t a y ok =>
    simp only [ho] at h ⊢
    split at h
    · rename_i k el hu
      exact mono_bind (mono_lookup (und_ok hu) h _ _ _) fun _ => mono_pure _
    · cases h
  | _ => simp [ho] at h
theorem grows_stringOp (op : BinOp) (a b : ByteArray) : Grows P (Op.stringOp op a b) := by
  unfold Op.stringOp
  repeat' first | exact grows_pure _ | exact grows_never (never_stuck _) | exact grows_never (never_unsup _) | exact grows_never (never_panic _) | (refine grows_bind ?_ fun _ => ?_) | split | dsimp only
theorem grows_max2 (a b : Value) : Grows P (Builtin.max2 a b) := by
  unfold Builtin.max2
  repeat' first | exact grows_pure _ | exact grows_never (never_stuck _) | exact grows_never (never_unsup _) | exact grows_choose _ | exact grows_stringOp _ _ _ | exact grows_fix (fix_asBool _) | (refine grows_bind ?_ fun _ => ?_) | split | dsimp only
theorem grows_min2 (a b : Value) : Grows P (Builtin.min2 a b) := by
  unfold Builtin.min2
  repeat' first | exact grows_pure _ | exact grows_never (never_stuck _) | exact grows_never (never_unsup _) | exact grows_choose _ | exact grows_stringOp _ _ _ | exact grows_fix (fix_asBool _) | (refine grows_bind ?_ fun _ => ?_) | split | dsimp only
theorem grows_fold {f : Value → Value → Sem Value} (hf : ∀ a b, Grows P (f a b)) : ∀ (l : List Value) (x : Value), Grows P (l.foldlM f x)
  | [], x => grows_pure x
  | y :: l, x => by
    rw [List.foldlM_cons]
    exact grows_bind (hf x y) fun a => grows_fold hf l a
theorem grows_max (ts : Array TypeId) (t : TypeId) (args : Array Value) : Grows P (Builtin.max_ ts t args) := by
  unfold Builtin.max_
  split
  · exact grows_never (never_stuck _)
  · exact grows_fold grows_max2 _ _
theorem grows_min (ts : Array TypeId) (t : TypeId) (args : Array Value) : Grows P (Builtin.min_ ts t args) := by
  unfold Builtin.min_
  split
  · exact grows_never (never_stuck _)
  · exact grows_fold grows_min2 _ _
theorem fix_asAddr (v : Value) : Fix P (asAddr v) := by
  unfold asAddr
  repeat' first | exact fix_pure _ | exact fix_never (never_stuck _) | exact fix_never (never_panic _) | exact fix_never (never_unsup _) | (refine fix_bind ?_ fun _ => ?_) | split
theorem fix_sliceBound (x : Value) (y : Nat) (c : BoundsCode) : Fix P (Instr.sliceBound x y c) := by
  unfold Instr.sliceBound
  refine fix_bind (fix_asInt x) fun p => ?_
  dsimp only
  split
  · exact fix_pure _
  · exact fix_never (never_bounds _ _ _ _)
theorem fix_sliceBounds (b : Bool) (n c : Nat) (lo hi mx : Option Value) : Fix P (Instr.sliceBounds b n c lo hi mx) := by
  unfold Instr.sliceBounds
  dsimp only
  repeat' first | exact fix_pure _ | exact fix_never (never_stuck _) | exact fix_sliceBound _ _ _ | (refine fix_bind ?_ fun _ => ?_) | split | dsimp only
theorem fix_slice (t : TypeId) (x : Value) (lo hi mx : Option Value) : Fix P (Instr.slice t x lo hi mx) := by
  unfold Instr.slice
  refine fix_bind (fix_under t) fun d => ?_
  repeat' first | exact fix_pure _ | exact fix_never (never_stuck _) | exact fix_never (never_bind fun _ => never_stuck _) | exact fix_sliceBounds _ _ _ _ _ _ | exact fix_size _ | exact fix_under _ | exact fix_asAddr _ | (refine fix_bind ?_ fun _ => ?_) | split | dsimp only
theorem fix_sliceAt (t : TypeId) (x : Value) (lo hi mx : Option Value) : Fix P (Instr.sliceAt t x lo hi mx) := by
  unfold Instr.sliceAt
  refine fix_bind (fix_under t) fun d => ?_
  split
  · refine fix_bind (fix_sure _) fun a => ?_
    refine fix_bind (fix_sliceBounds _ _ _ _ _ _) fun p => ?_
    dsimp only
    exact fix_bind (fix_size _) fun _ => fix_pure _
  · exact fix_slice _ _ _ _ _
theorem roB_keep {C : Ctx} {o : Oper} (h : roB C.T o = true) : KeepO C.P o := by
  intro ρ w n w1 e
  unfold roB at h
  unfold execOp at e
  have hp : ∀ (v : Value), (pure (.value v) : Sem Next).run C.P w = .ok n w1 → Grow w w1 ∧ ∃ v, n = .value v := fun v e => by
    simp only [Sem.run_pure, Result.ok.injEq] at e
    exact ⟨by rw [e.2]; exact Grow.refl _, v, e.1.symm⟩
  cases ho : o.op with
  | move x => simp only [ho] at e; exact hp _ e
  | assign x => simp only [ho] at e; exact hp _ e
  | pick c a b =>
    simp only [ho] at e
    rw [Sem.run_bind] at e
    obtain ⟨b, w2, h3, h4⟩ := andThen_some e
    have := (fix_asBool (P := C.P) _).keep w _ _ h3
    subst this
    exact hp _ h4
  | unOp op t x => simp only [ho] at e; exact keep_v (fix_unary _ _).keep w n w1 e
  | extract x i => simp only [ho] at e; exact keep_v (fix_extract _ _).keep w n w1 e
  | field t x i => simp only [ho] at e; exact keep_v (fix_field _ _ _).keep w n w1 e
  | indexAddr t x i => simp only [ho] at e; exact keep_v (fix_indexAt _ _ _).keep w n w1 e
  | index t x i => simp only [ho] at e; exact keep_v (fix_index _ _ _).keep w n w1 e
  | makeFunc fn a b => simp only [ho] at e; exact keep_v (fix_pure _).keep w n w1 e
  | load t a => simp only [ho] at e; exact keep_v (keep_loadAt _ _) w n w1 e
  | fieldAddr t x f => simp only [ho] at h e; exact keep_v (fix_fieldAt h _).keep w n w1 e
  | lookup t a y ok =>
    simp only [ho] at h e
    split at h
    · rename_i k el hu
      exact keep_v (mono_lookup (und_ok hu) h _ _ _).still w n w1 e
    · cases h
  | build t parts => simp only [ho] at e; exact keep_v (keep_build _ _) w n w1 e
  | alloc t => simp only [ho] at e; exact grows_v (grows_alloc _) w n w1 e
  | box t x => simp only [ho] at e; exact grows_v (grows_box _ _) w n w1 e
  | buildSlice t n' parts => simp only [ho] at e; exact grows_v (grows_buildSlice _ _ _) w n w1 e
  | slice t x lo hi mx => simp only [ho] at e; exact keep_v (fix_sliceAt _ _ _ _ _).keep w n w1 e
  | call c =>
    simp only [ho] at h e
    split at h
    · rename_i hc
      simp only [hc, resolve, invoke, builtin, Sem.run_bind, Sem.run_pure, Result.andThen_ok] at e
      exact grows_v (grows_max _ _ _) w n w1 (by rw [Sem.run_bind]; exact e)
    · rename_i hc
      simp only [hc, resolve, invoke, builtin, Sem.run_bind, Sem.run_pure, Result.andThen_ok] at e
      exact grows_v (grows_min _ _ _) w n w1 (by rw [Sem.run_bind]; exact e)
    · cases h
  | _ => simp [ho] at h
def YieldsAt (P : Program) (ops : Array Oper) (o : Oper) (v : Value) (a : Act) (w : World) : Prop :=
  (Region.wanted o (yielded ops a.tmps) = true ∧ ∀ w', Grow w w' → (execOp a.eval o).run P w' = .ok (.value v) w') ∨
  (Region.wanted o (yielded ops a.tmps) = false ∧ v = undef)
variable {ops : Array Oper} {Q : Exit → Act → World → Prop} {md : Region.Mode}
theorem YieldsAt.wpOp {i : Nat} {o : Oper} {v : Value} {a : Act} {w : World} (hi : ops[i]? = some o) (hy : YieldsAt P ops o v a w)
    {K : Act → World → Prop} (h : K (a.put o.dst v) w) : wpOp P ops Q i K a w := by
  unfold Go.wpOp
  simp only [hi]
  rcases hy with ⟨hw, hv⟩ | ⟨hw, rfl⟩
  · simp only [hw, if_true, Oper.wp, hv w (Grow.refl w), Oper.upon]; exact .inl h
  · simp only [hw, Bool.false_eq_true, if_false]; exact h
theorem YieldsAt.grow {o : Oper} {v : Value} {a : Act} {w w1 : World} (hy : YieldsAt P ops o v a w) (g : Grow w w1) : YieldsAt P ops o v a w1 := by
  rcases hy with ⟨h1, h2⟩ | h
  · exact .inl ⟨h1, fun w' g' => h2 w' (g.trans g')⟩
  · exact .inr h
theorem YieldsAt.of_same {o : Oper} {v : Value} {a a' : Act} {w : World} (hy : YieldsAt P ops o v a w) (he : execOp a'.eval o = execOp a.eval o)
    (hw : Region.wanted o (yielded ops a'.tmps) = Region.wanted o (yielded ops a.tmps)) : YieldsAt P ops o v a' w := by
  unfold YieldsAt at *
  rw [he, hw]
  exact hy
theorem wpOp_putW {j : Nat} {oi oj : Oper} {v : Value} (hj : ops[j]? = some oj) (hap : oi.apart ops oj = true) (hk : KeepO P oj)
    (hsi : ∀ cs b, oi.op ≠ .select cs b) (hsj : ∀ cs b, oj.op ≠ .select cs b)
    (hQ : ∀ c a w, ¬ Q (.panic c) a w) (hL : ¬ LetsOut Q) {K : Act → World → Prop} {a : Act} {w : World}
    (hy : YieldsAt P ops oi v a w) (h : wpOp P ops Q j K (a.put oi.dst v) w) :
    wpOp P ops Q j (fun a' w' => YieldsAt P ops oi v a' w' ∧ K (a'.put oi.dst v) w') a w := by
  obtain ⟨h1, h2, h3⟩ := Oper.apart_spec hap
  have keep : ∀ u, YieldsAt P ops oi v (a.put oj.dst u) w := fun u =>
    hy.of_same (execOp_put oi hsi a oj.dst u h3) (wanted_put oi a oj.dst u h3)
  unfold wpOp at *
  simp only [hj] at *
  rw [wanted_put oj a oi.dst v h1] at h
  split
  · rename_i hw
    simp only [hw, if_true] at h
    rcases h with h | ⟨_, hlets⟩
    case inr => exact (hL hlets).elim
    refine .inl ?_
    unfold Oper.wp at *
    rw [execOp_put oj hsj a oi.dst v h1] at h
    cases hr : (execOp a.eval oj).run P w with
    | ok n w' =>
      obtain ⟨g, u, rfl⟩ := hk _ _ _ _ hr
      rw [hr] at h
      simp only [Oper.upon] at h ⊢
      exact ⟨(keep u).grow g, by rw [← Act.put_comm a v u h2]; exact h⟩
    | halt x w' =>
      rw [hr] at h
      cases x <;> simp only [Oper.upon] at h ⊢
      case panic u => exact (hQ _ _ _ h).elim
      all_goals first | exact h | exact (hL h).elim
  · rename_i hw
    simp only [hw] at h
    exact ⟨keep _, by rw [← Act.put_comm a v undef h2]; exact h⟩
theorem edgeTo_mem {B : Nat} : ∀ {l : List Edge}, edgeTo B l = true → ∃ e ∈ l, tb B e.on = true ∧ Region.binds .any e = true
  | [], h => by simp [edgeTo] at h
  | e :: l, h => by
    simp only [edgeTo, Bool.or_eq_true, Bool.and_eq_true] at h
    rcases h with h | h
    · exact ⟨e, by simp, h.2, h.1⟩
    · obtain ⟨e', h1, h2⟩ := edgeTo_mem h
      exact ⟨e', by simp [h1], h2⟩
theorem wpAny_still {B i : Nat} {oi : Oper} {v : Value} (hi : ops[i]? = some oi) (hsel : ∀ (j : Nat) (o : Oper) cs b, ops[j]? = some o → o.op ≠ .select cs b)
    (hQ : ∀ c a w, ¬ Q (.panic c) a w) (hL : ¬ LetsOut Q) :
    ∀ (fuel : Nat) (listed : Array Bool) (a : Act) (w : World),
      (∀ j oj, ops[j]? = some oj → j ≠ i → listed.getD j true = false → (∃ e ∈ oj.after, tb B e.on = true ∧ Region.binds md e = true) ∨ (tb B j = false ∧ oi.apart ops oj = true ∧ KeepO P oj)) →
      (∀ j, tb B j = true → listed.getD j false = false) →
      i ∈ Region.ready md ops listed → YieldsAt P ops oi v a w →
      wpAny P md ops Q fuel (listed.setIfInBounds i true) (a.put oi.dst v) w → wpAny P md ops Q (fuel + 1) listed a w := by
  intro fuel
  induction fuel with
  | zero =>
    intro listed a w _ _ hr hy H
    refine ⟨fun h => (by rw [h] at hr; cases hr), fun j hj => ?_⟩
    by_cases hji : j = i
    · subst hji; exact hy.wpOp hi H
    · have := ready_mono hj hji
      rw [H.1] at this
      cases this
  | succ fuel ih =>
    intro listed a w hfree hB hr hy H
    refine ⟨fun h => (by rw [h] at hr; cases hr), fun j hj => ?_⟩
    by_cases hji : j = i
    · subst hji; exact hy.wpOp hi H
    · have h1 := H.2 j (ready_mono hj hji)
      obtain ⟨hjun, oj, hoj, hall⟩ := mem_ready.1 hj
      rcases hfree j oj hoj hji hjun with ⟨e, he, hb, hbd⟩ | ⟨hbj, hap, hk⟩
      · have h1 := hall e he hbd
        rw [hB _ hb] at h1
        cases h1
      · have h2 := wpOp_putW hoj hap hk (fun cs b => hsel i oi cs b hi) (fun cs b => hsel j oj cs b hoj) hQ hL hy h1
        have hfree' : ∀ k ok, ops[k]? = some ok → k ≠ i → (listed.setIfInBounds j true).getD k true = false → (∃ e ∈ ok.after, tb B e.on = true ∧ Region.binds md e = true) ∨ (tb B k = false ∧ oi.apart ops ok = true ∧ KeepO P ok) := fun k ok hk hki hun => by
          refine hfree k ok hk hki ?_
          by_cases hjk : j = k
          · subst hjk; exact hjun
          · rw [getD_set_ne true hjk] at hun; exact hun
        have hB' : ∀ k, tb B k = true → (listed.setIfInBounds j true).getD k false = false := fun k hk => by
          have hjk : j ≠ k := by rintro rfl; rw [hbj] at hk; cases hk
          rw [getD_set_ne false hjk]; exact hB k hk
        refine wpOp_mono (fun a' w' h3 => ih (listed.setIfInBounds j true) a' w' hfree' hB' (ready_mono hr (Ne.symm hji)) h3.1 ?_) h2
        rw [Array.setIfInBounds_comm _ _ hji]
        exact h3.2
theorem stillF_mem {T : Tab} {all : List Oper} {m B i : Nat} {o : Oper} : ∀ {l : List Oper} {k : Nat}, stillF T all m B i o l k = true → ∀ (j : Nat) (y : Oper), l[j]? = some y → (k + j = i ∨ (tb B (k + j) = true ∧ tb m (k + j) = false ∧ edgeTo B y.after.toList = true) ∨ (tb B (k + j) = false ∧ (tb m (k + j) = true ∨ (apartO all o y = true ∧ roB T y = true))))
  | [], _, _, j, y, h => by simp at h
  | z :: l, k, h, j, y, hy => by
    simp only [stillF, Bool.and_eq_true, Bool.or_eq_true] at h
    cases j with
    | zero =>
      simp at hy
      subst hy
      rcases h.1 with h | h
      · exact .inl (by have := Nat.eq_of_beq_eq_true h; omega)
      · cases hb : tb B k with
        | true =>
          simp only [hb, Bool.and_eq_true, Bool.not_eq_true'] at h
          exact .inr (.inl ⟨by simp, by simpa using h.1, h.2⟩)
        | false =>
          simp only [hb, Bool.and_eq_true, Bool.or_eq_true] at h
          exact .inr (.inr ⟨by simp, by simpa using h⟩)
    | succ j =>
      have := stillF_mem h.2 j y (by simpa using hy)
      rw [show k + (j + 1) = k + 1 + j by omega]
      exact this
theorem blkM_some {m : Nat} {K : Nat → Bool} : ∀ {l : List Oper} {k B : Nat}, blkM m l k B K = true → ∃ B', (∀ j, tb B j = true → tb B' j = true) ∧ K B' = true
  | [], k, B, h => ⟨B, fun _ h => h, h⟩
  | y :: l, k, B, h => by
    unfold blkM at h
    split at h
    · rw [forceN_eq] at h
      obtain ⟨B', h1, h2⟩ := blkM_some h
      exact ⟨B', fun j hj => h1 j (by rw [tb_set, hj]; rfl), h2⟩
    · exact blkM_some h
theorem stillM_some {T : Tab} {all : List Oper} {m i : Nat} : ∀ {l : List Nat}, stillM T all m l = some i → i ∈ l ∧ ∃ o B, nthO all i = some o ∧ candO T o = true ∧ stillF T all m B i o all 0 = true
  | [], h => by simp [stillM] at h
  | k :: l, h => by
    simp only [stillM] at h
    cases ho : nthO all k with
    | none =>
      simp only [ho] at h
      obtain ⟨h1, h2⟩ := stillM_some h
      exact ⟨by simp [h1], h2⟩
    | some o =>
      simp only [ho] at h
      cases hb : (candO T o && blkM m all 0 (setB 0 k) fun B => stillF T all m B k o all 0) with
      | true =>
        simp only [hb, Option.some.injEq] at h
        subst h
        simp only [Bool.and_eq_true] at hb
        obtain ⟨B, _, h2⟩ := blkM_some hb.2
        exact ⟨by simp, o, B, ho, hb.1, h2⟩
      | false =>
        simp only [hb] at h
        obtain ⟨h1, h2⟩ := stillM_some h
        exact ⟨by simp [h1], h2⟩
end
end Go.Proofs.YthlpjdjipchdkaaDoor.E

namespace Go.Proofs.YthlpjdjipchdkaaDoor.E
open Go
set_option linter.unusedSimpArgs false
set_option linter.unusedVariables false
theorem edgesIn_iff {m : Nat} : ∀ {l : List Edge}, edgesIn m l = true ↔ ∀ e ∈ l, Region.binds .any e = true → tb m e.on = true
  | [] => by simp [edgesIn]
  | e :: l => by
    simp only [edgesIn, Bool.and_eq_true, Bool.or_eq_true, Bool.not_eq_true', List.mem_cons, forall_eq_or_imp, edgesIn_iff (l := l)]
    constructor
    · rintro ⟨h1, h2⟩
      refine ⟨fun hb => ?_, h2⟩
      rcases h1 with h1 | h1
      · rw [h1] at hb; cases hb
      · exact h1
    · rintro ⟨h1, h2⟩
      refine ⟨?_, h2⟩
      cases hb : Region.binds .any e with
      | true => exact .inr (h1 hb)
      | false => exact .inl rfl
theorem readyM_iff {m i : Nat} : ∀ {l : List Oper} {k : Nat}, i ∈ readyM m l k ↔ ∃ j o, i = k + j ∧ l[j]? = some o ∧ tb m i = false ∧ edgesIn m o.after.toList = true
  | [], k => by simp [readyM]
  | o :: l, k => by
    have rec' : i ∈ readyM m l (k + 1) ↔ ∃ j o', i = k + (j + 1) ∧ (o :: l)[j + 1]? = some o' ∧ tb m i = false ∧ edgesIn m o'.after.toList = true := by
      rw [readyM_iff (l := l) (k := k + 1)]
      constructor
      · rintro ⟨j, o', h1, h2⟩; exact ⟨j, o', by omega, by simpa using h2⟩
      · rintro ⟨j, o', h1, h2⟩; exact ⟨j, o', by omega, by simpa using h2⟩
    simp only [readyM]
    cases hb : (!(tb m k) && edgesIn m o.after.toList) with
    | true =>
      simp only [Bool.and_eq_true, Bool.not_eq_true'] at hb
      simp only [List.mem_cons, rec']
      constructor
      · rintro (rfl | ⟨j, o', h1, h2⟩)
        · exact ⟨0, o, by omega, rfl, hb.1, hb.2⟩
        · exact ⟨j + 1, o', h1, h2⟩
      · rintro ⟨j, o', h1, h2, h3⟩
        cases j with
        | zero => exact .inl (by omega)
        | succ j => exact .inr ⟨j, o', h1, h2, h3⟩
    | false =>
      simp only [rec']
      constructor
      · rintro ⟨j, o', h1, h2⟩; exact ⟨j + 1, o', h1, h2⟩
      · rintro ⟨j, o', h1, h2, h3, h4⟩
        cases j with
        | zero =>
          simp at h2
          subst h2
          simp only [Nat.add_zero] at h1
          subst h1
          rw [h3, h4] at hb; cases hb
        | succ j => exact ⟨j, o', h1, h2, h3, h4⟩
structure Rel (ops : Array Oper) (listed : Array Bool) (m : Nat) : Prop where
  size : listed.size = ops.size
  bits : ∀ j, listed.getD j false = tb m j
theorem Rel.ready {ops : Array Oper} {listed : Array Bool} {m : Nat} (h : Rel ops listed m) (i : Nat) : i ∈ Region.ready .any ops listed ↔ i ∈ readyM m ops.toList 0 := by
  rw [mem_ready, readyM_iff]
  have hbit : i < ops.size → listed.getD i true = tb m i := fun hi => by
    rw [← h.bits i]
    have : i < listed.size := by rw [h.size]; exact hi
    simp [this]
  constructor
  · rintro ⟨h1, o, h2, h3⟩
    have hi : i < ops.size := (Array.getElem?_eq_some_iff.1 h2).1
    refine ⟨i, o, by omega, by simpa using h2, by rw [← hbit hi]; exact h1, edgesIn_iff.2 fun e he hb => ?_⟩
    rw [← h.bits]; exact h3 e (by simpa using he) hb
  · rintro ⟨j, o, h1, h2, h3, h4⟩
    have e : i = j := by omega
    subst e
    have h2' : ops[i]? = some o := by simpa using h2
    have hi : i < ops.size := (Array.getElem?_eq_some_iff.1 h2').1
    exact ⟨by rw [hbit hi]; exact h3, o, h2', fun e he hb => by rw [h.bits]; exact edgesIn_iff.1 h4 e (by simpa using he) hb⟩
theorem Rel.set {ops : Array Oper} {listed : Array Bool} {m i : Nat} (h : Rel ops listed m) (hi : i < ops.size) : Rel ops (listed.setIfInBounds i true) (setB m i) := by
  refine ⟨by simp [h.size], fun j => ?_⟩
  rw [tb_set]
  by_cases e : i = j
  · subst e
    have : i < listed.size := by rw [h.size]; exact hi
    simp [this]
  · rw [getD_set_ne false e, h.bits]; simp [e]
theorem Rel.zero (ops : Array Oper) : Rel ops (Array.replicate ops.size false) 0 := by
  refine ⟨by simp, fun j => ?_⟩
  rw [tb_zero]
  rcases Nat.lt_or_ge j ops.size with h | h
  · simp [h]
  · simp [Nat.not_lt.2 h]
theorem allM_some {R : Type} {run : Nat → Option R} {r : R} : ∀ {l : List Nat}, allM run l = some r → ∀ i ∈ l, run i = some r
  | [], _, i, hi => by simp at hi
  | [a], h, i, hi => by
    simp at hi
    subst hi
    exact h
  | a :: b :: l, h, i, hi => by
    obtain ⟨h1, h2⟩ := both_some (A := run a) (B := allM run (b :: l)) h
    rcases List.mem_cons.1 hi with rfl | hi
    · exact h1
    · exact allM_some h2 i hi
theorem firstM_some {E' : Env} {all : List Oper} {σ : St} {m i : Nat} : ∀ {l : List Nat}, firstM E' all σ m l = some i → i ∈ l ∧ ∃ o, nthO all i = some o ∧ quietO E'.T o = true ∧ steadyB E' σ o = true ∧ freeM all m i o all 0 = true
  | [], h => by simp [firstM] at h
  | k :: l, h => by
    simp only [firstM] at h
    cases ho : nthO all k with
    | none =>
      simp only [ho] at h
      obtain ⟨h1, h2⟩ := firstM_some h
      exact ⟨by simp [h1], h2⟩
    | some o =>
      simp only [ho] at h
      cases hb : (quietO E'.T o && steadyB E' σ o && freeM all m k o all 0) with
      | true =>
        simp only [hb, Option.some.injEq] at h
        subst h
        simp only [Bool.and_eq_true] at hb
        exact ⟨by simp, o, ho, hb.1.1, hb.1.2, hb.2⟩
      | false =>
        simp only [hb] at h
        obtain ⟨h1, h2⟩ := firstM_some h
        exact ⟨by simp [h1], h2⟩
theorem selO_op {o : Oper} (h : selO o = false) : ∀ cs b, o.op ≠ .select cs b := by
  intro cs b e
  unfold selO at h
  rw [e] at h; cases h
theorem noSel_mem {l : List Oper} : noSel l = true → ∀ o ∈ l, selO o = false := by
  induction l with
  | nil => intro _ o ho; simp at ho
  | cons y l ih =>
    intro h o ho
    have h' : (!(selO y) && noSel l) = true := h
    rw [Bool.and_eq_true, Bool.not_eq_true'] at h'
    rcases List.mem_cons.1 ho with e | ho
    · rw [e]; exact h'.1
    · exact ih h'.2 o ho
theorem opSlots_mem {d : Nat} : ∀ {l : List Operand}, d ∈ opSlots l ↔ Operand.tmp d ∈ l
  | [] => by simp [opSlots]
  | .tmp t :: l => by simp [opSlots, opSlots_mem (l := l)]
  | .const _ :: l => by simp [opSlots, opSlots_mem (l := l)]
  | .func _ :: l => by simp [opSlots, opSlots_mem (l := l)]
  | .global _ :: l => by simp [opSlots, opSlots_mem (l := l)]
theorem looks_mem {ops : Array Oper} {o : Oper} {d : Nat} : (o.looksAt ops).contains d = natMem d (slotsAll ops.toList o) := by
  have hf : ∀ l : List Operand, (d ∈ l.filterMap fun | .tmp t => some t | _ => none) ↔ Operand.tmp d ∈ l := by
    intro l
    rw [List.mem_filterMap]
    constructor
    · rintro ⟨x, hx, h⟩
      cases x <;> simp at h
      subst h; exact hx
    · intro h; exact ⟨_, h, rfl⟩
  have h : d ∈ o.looksAt ops ↔ d ∈ slotsAll ops.toList o := by
    unfold Oper.looksAt slotsAll
    rw [List.mem_append]
    have e1 := hf o.op.operands.toList
    rw [← opSlots_mem] at e1
    cases hg : o.guard with
    | none =>
      simp only [List.not_mem_nil, or_false]
      exact e1
    | some p =>
      obtain ⟨j, w⟩ := p
      simp only
      rw [dstOf_eq]
      have e : (ops[j]?).bind (·.dst) = (ops.toList[j]?).bind (·.dst) := by simp
      rw [e]
      cases (ops.toList[j]?).bind (·.dst) with
      | none =>
        simp only [Option.toList_none, List.not_mem_nil, or_false]
        exact e1
      | some x =>
        simp only [Option.toList_some, List.mem_cons, List.not_mem_nil, or_false]
        rw [or_comm]
        exact or_congr_right e1
  cases h1 : natMem d (slotsAll ops.toList o) with
  | true => exact List.elem_eq_true_of_mem (h.2 (natMem_iff.1 h1))
  | false =>
    cases h2 : (o.looksAt ops).contains d with
    | false => rfl
    | true =>
      have := natMem_iff.2 (h.1 (List.contains_iff_mem.1 h2))
      rw [h1] at this; cases this
theorem apartO_ok {ops : Array Oper} {x y : Oper} (h : apartO ops.toList x y = true) : x.apart ops y = true := by
  unfold apartO at h
  unfold Oper.apart
  simp only [Bool.and_eq_true] at h ⊢
  refine ⟨?_, ?_⟩
  · have h1 := h.1
    cases hx : x.dst with
    | none => rfl
    | some d =>
      simp only [hx, Bool.and_eq_true, Bool.not_eq_true'] at h1 ⊢
      rw [looks_mem]
      refine ⟨h1.1, ?_⟩
      cases hy : y.dst with
      | none => rfl
      | some e =>
        have h2 := h1.2
        rw [hy] at h2
        simp only [eqO] at h2
        have : d ≠ e := by rintro rfl; simp at h2
        simp [Ne.symm this]
  · have h1 := h.2
    cases hy : y.dst with
    | none => rfl
    | some d =>
      simp only [hy, Bool.not_eq_true'] at h1 ⊢
      rw [looks_mem]
      exact h1
theorem hasEdge_mem {i : Nat} : ∀ {l : List Edge}, hasEdge i l = true → ∃ e ∈ l, e.on = i ∧ Region.binds .any e = true
  | [], h => by simp [hasEdge] at h
  | e :: l, h => by
    simp only [hasEdge, Bool.or_eq_true, Bool.and_eq_true] at h
    rcases h with h | h
    · exact ⟨e, by simp, Nat.eq_of_beq_eq_true h.2, h.1⟩
    · obtain ⟨e', h1, h2⟩ := hasEdge_mem h
      exact ⟨e', by simp [h1], h2⟩
theorem freeM_mem {all : List Oper} {m i : Nat} {o : Oper} : ∀ {l : List Oper} {k : Nat}, freeM all m i o l k = true → ∀ (j : Nat) (y : Oper), l[j]? = some y → (k + j = i ∨ tb m (k + j) = true ∨ hasEdge i y.after.toList = true ∨ apartO all o y = true)
  | [], _, _, j, y, h => by simp at h
  | z :: l, k, h, j, y, hy => by
    simp only [freeM, Bool.and_eq_true, Bool.or_eq_true] at h
    cases j with
    | zero =>
      simp at hy
      subst hy
      rcases h.1 with ((h | h) | h) | h
      · exact .inl (by have := Nat.eq_of_beq_eq_true h; omega)
      · exact .inr (.inl (by simpa using h))
      · exact .inr (.inr (.inl h))
      · exact .inr (.inr (.inr h))
    | succ j =>
      have := freeM_mem h.2 j y (by simpa using hy)
      rw [show k + (j + 1) = k + 1 + j by omega]
      exact this
def left (n : Nat) (listed : Array Bool) : Nat := ((List.range n).filter fun j => !listed.getD j true).length
theorem filter_lt {P P' : Nat → Bool} {i : Nat} : ∀ {l : List Nat}, (∀ x ∈ l, P' x = true → P x = true) → i ∈ l → P i = true → P' i = false → (l.filter P').length < (l.filter P).length
  | [], _, h, _, _ => by simp at h
  | k :: l, h, hi, h1, h2 => by
    have hle : ∀ m : List Nat, (∀ x ∈ m, P' x = true → P x = true) → (m.filter P').length ≤ (m.filter P).length := by
      intro m
      induction m with
      | nil => simp
      | cons x m ih =>
        intro hm
        have := ih (fun y hy => hm y (by simp [hy]))
        simp only [List.filter_cons]
        cases hp : P' x with
        | true => rw [hm x (by simp) hp]; simp; omega
        | false => cases P x <;> simp <;> omega
    simp only [List.filter_cons]
    rcases List.mem_cons.1 hi with rfl | hi
    · rw [h1, h2]
      have := hle l (fun y hy => h y (by simp [hy]))
      simp; omega
    · have := filter_lt (fun y hy => h y (by simp [hy])) hi h1 h2
      cases hp : P' k with
      | true => rw [h k (by simp) hp]; simp; omega
      | false => cases P k <;> simp <;> omega
theorem left_set {n i : Nat} {listed : Array Bool} (hi : i < n) (hl : listed.getD i true = false) : left n (listed.setIfInBounds i true) < left n listed := by
  have hlt : i < listed.size := by
    rcases Nat.lt_or_ge i listed.size with h | h
    · exact h
    · simp [Array.getElem?_eq_none h] at hl
  refine filter_lt (i := i) (fun j _ hj => ?_) (List.mem_range.2 hi) (by rw [hl]; rfl) (by simp [hlt])
  by_cases e : i = j
  · subst e; rw [hl]; rfl
  · rw [getD_set_ne true e] at hj; exact hj
section
variable {C : Ctx}
theorem skipK_ok {R : Type} {σ : St} {w : World} {a : Act} {dst : Option Nat} {d : Nat} {u : Bool} {K : St → Option R} {res : R} (hs : Sat C σ w a) (hne : a.tmps.getD d undef ≠ .bool u) (he : skipK σ dst d u K = some res) :
    ∃ σ2, K σ2 = some res ∧ Sat C σ2 w (a.put dst undef) ∧ ∀ j, some j ≠ dst → (a.put dst undef).tmps.getD j undef = a.tmps.getD j undef := by
  obtain ⟨hdf, I, β, F, hi⟩ := hs
  unfold skipK at he
  cases dst with
  | none => exact ⟨σ, he, ⟨hdf, I, β, F, hi⟩, fun j _ => rfl⟩
  | some e =>
    simp only at he
    cases hc : (Nat.blt e σ.n && !(Nat.beq e d)) with
    | false => simp [hc] at he
    | true =>
      simp only [hc] at he
      simp only [Bool.and_eq_true, Bool.not_eq_true'] at hc
      have hlt : e < σ.n := by have := hc.1; simpa [Nat.blt_eq] using this
      have hde : e ≠ d := by rintro rfl; have := hc.2; simp at this
      refine ⟨_, he, ⟨hdf, I, β, F, hi.putC hlt hde (fun h => absurd h hne) (fun _ => rfl)⟩, fun j hj => ?_⟩
      show (a.tmps.setIfInBounds e undef).getD j undef = _
      rw [getD_set (by rw [hi.size]; exact hlt), if_neg (by rintro rfl; exact hj rfl)]
theorem runM_ok {R : Type} {E' : Env} {fn : E'.Fn} {inl : Inl} {f : FuncId} (hT : E'.T = C.T) (hG : E'.G = C.G) (hfn : FnOk C.P E' fn) (hin : InlOk C.P E' inl) (ops : Array Oper) (hsel : noSel ops.toList = true) {K : St → Option R} {res : R} {Q : Act → World → Prop} (a0 : Act)
    (hQ : ∀ σ' a' w', K σ' = some res → Sat C σ' w' a' → (∀ i, i ∉ dstL ops.toList → a'.tmps.getD i undef = a0.tmps.getD i undef) → Q a' w') :
    ∀ (fuel n m : Nat) {σ : St} {w : World} {a : Act} {listed : Array Bool}, Rel ops listed m → left ops.size listed ≤ fuel → Sat C σ w a → (∀ i, i ∉ dstL ops.toList → a.tmps.getD i undef = a0.tmps.getD i undef) → runM E' fn inl f ops.toList n m σ K = some res →
      wpAny C.P .any ops (fun e a w => e = .normal ∧ Q a w) fuel listed a w := by
  intro fuel
  induction fuel with
  | zero =>
    intro n m σ w a listed hrel hleft hs ht he
    have hr : Region.ready .any ops listed = [] := by
      cases hrd : Region.ready .any ops listed with
      | nil => rfl
      | cons i l =>
        have hi : i ∈ Region.ready .any ops listed := by rw [hrd]; simp
        obtain ⟨h1, o, ho, _⟩ := mem_ready.1 hi
        have := left_set (Array.getElem?_eq_some_iff.1 ho).1 h1
        omega
    refine ⟨hr, rfl, ?_⟩
    have hrm : readyM m ops.toList 0 = [] := by
      cases hq : readyM m ops.toList 0 with
      | nil => rfl
      | cons i l =>
        have : i ∈ Region.ready .any ops listed := (hrel.ready i).2 (by rw [hq]; simp)
        rw [hr] at this; cases this
    unfold runM at he
    rw [hrm] at he
    exact hQ σ a w he hs ht
  | succ fuel ih =>
    intro n m σ w a listed hrel hleft hs ht he
    have hmem : ∀ {i : Nat} {o : Oper}, ops[i]? = some o → ∀ d, o.dst = some d → d ∈ dstL ops.toList := fun {i o} ho d hd => by
      have ho' : ops.toList[i]? = some o := by simpa using ho
      exact List.mem_filterMap.2 ⟨o, List.mem_of_getElem? ho', hd⟩
    have hkeep : ∀ {i : Nat} {o : Oper} {a' : Act}, ops[i]? = some o → (∀ j, some j ≠ o.dst → a'.tmps.getD j undef = a.tmps.getD j undef) → ∀ j, j ∉ dstL ops.toList → a'.tmps.getD j undef = a0.tmps.getD j undef := by
      intro i o a' ho h j hj
      rw [h j (fun e => hj (hmem ho j e.symm)), ht j hj]
    have hgo : ∀ {i : Nat} {o : Oper} {n : Nat} {σ' : St} {w' : World} {a' : Act}, i ∈ Region.ready .any ops listed → ops[i]? = some o → Sat C σ' w' a' → (∀ j, some j ≠ o.dst → a'.tmps.getD j undef = a.tmps.getD j undef) → (forceN (setB m i) fun m => runM E' fn inl f ops.toList n m σ' K) = some res →
        wpAny C.P .any ops (fun e a w => e = .normal ∧ Q a w) fuel (listed.setIfInBounds i true) a' w' := by
      intro i o n σ' w' a' hi ho hs' hk he'
      rw [forceN_eq] at he'
      have hsz : i < ops.size := (Array.getElem?_eq_some_iff.1 ho).1
      have := left_set hsz (mem_ready.1 hi).1
      exact ih n (setB m i) (hrel.set hsz) (by omega) hs' (hkeep ho hk) he'
    have hguard : ∀ {i : Nat} {o : Oper} {run : St → (St → Option R) → Option R} {K' : St → Option R}, ops[i]? = some o → stepG ops.toList o σ run K' = some res →
        (∃ σ1, Sat C σ1 w a ∧ run σ1 K' = some res ∧ Region.wanted o (yielded ops a.tmps) = true) ∨
        (∃ σ2, Sat C σ2 w (a.put o.dst undef) ∧ K' σ2 = some res ∧ Region.wanted o (yielded ops a.tmps) = false ∧ ∀ j, some j ≠ o.dst → (a.put o.dst undef).tmps.getD j undef = a.tmps.getD j undef) := by
      intro i o run K' ho hst
      unfold stepG at hst
      cases hgd : o.guard with
      | none =>
        simp only [hgd] at hst
        exact .inl ⟨σ, hs, hst, by simp [Region.wanted, hgd]⟩
      | some ju =>
        obtain ⟨j, u⟩ := ju
        simp only [hgd] at hst
        cases hd : dstOf ops.toList j with
        | none => simp [hd] at hst
        | some d =>
          simp only [hd] at hst
          split at hst
          · rename_i l b hf
            obtain ⟨hdf, I, β, F, hi⟩ := hs
            have hb : a.tmps.getD d undef = .bool b := by
              have := hi.slots d
              rw [hf] at this
              exact of_bool (b := b) this
            have hw : Region.wanted o (yielded ops a.tmps) = (b == u) := by simp [Region.wanted, hgd, yielded_some hd hb]
            have hlit : ∀ c, b = c → Inv C I β F { t := (d, .v false .bool c) :: σ.t, c := σ.c, r := σ.r, n := σ.n, b := σ.b, k := σ.k } w a.tmps := by
              rintro c rfl
              refine hi.reslot hi.size (fun i => ?_) hi.conds hi.undefs
              by_cases e : i = d
              · subst e; rw [find_cons_same, hb]; exact svr_bool
              · rw [find_cons_ne e]; exact hi.slots i
            have hbr := br_some hst
            clear hst
            rcases hbr with ⟨hbu, hst⟩ | ⟨hbu, hst⟩
            · obtain rfl := boolEq_iff hbu
              exact .inl ⟨_, ⟨hdf, I, β, F, hlit b rfl⟩, hst, by rw [hw]; simp⟩
            · have hbn : b = !u := by cases b <;> cases u <;> simp [boolEq] at hbu ⊢
              obtain ⟨σ2, g1, g2, g3⟩ := skipK_ok ⟨hdf, I, β, F, hlit (!u) hbn⟩ (by rw [hb, hbn]; cases u <;> simp) hst
              exact .inr ⟨σ2, g2, g1, by rw [hw, hbn]; cases u <;> rfl, g3⟩
          · rename_i hf
            obtain ⟨hdf, I, β, F, hi⟩ := hs
            obtain ⟨b, σ', h1, h2, h3⟩ := test_ok 12 hi hst
            cases b with
            | some b => simp at h1
            | none =>
              simp only [Tested] at h3
              obtain ⟨σ2, g1, g2, g3⟩ := skipK_ok ⟨hdf, I, β, F, h2⟩ (by rw [h3]; simp [undef]) h1
              exact .inr ⟨σ2, g2, g1, by simp [Region.wanted, hgd, yielded_none hd h3], g3⟩
          · cases hst
    unfold runM at he
    cases hrd : readyM m ops.toList 0 with
    | nil =>
      rw [hrd] at he
      have hr : Region.ready .any ops listed = [] := by
        cases hq : Region.ready .any ops listed with
        | nil => rfl
        | cons i l =>
          have : i ∈ readyM m ops.toList 0 := (hrel.ready i).1 (by rw [hq]; simp)
          rw [hrd] at this; cases this
      exact wpAny_done hr ⟨rfl, hQ σ a w he hs ht⟩ _
    | cons i0 l0 =>
      rw [hrd] at he
      simp only at he
      cases n with
      | zero => simp at he
      | succ n =>
        simp only at he
        have hready : ∀ i, i ∈ i0 :: l0 ↔ i ∈ Region.ready .any ops listed := fun i => by rw [hrel.ready i, hrd]
        cases hfm : firstM E' ops.toList σ m (i0 :: l0) with
        | some i =>
          simp only [hfm] at he
          obtain ⟨hi1, o, ho, hq, hst, hfr⟩ := firstM_some hfm
          simp only [ho] at he
          rw [nthO_eq] at ho
          have ho' : ops[i]? = some o := by simpa using ho
          have hir := (hready i).1 hi1
          have hsz : i < ops.size := (Array.getElem?_eq_some_iff.1 ho').1
          have hfree : ∀ j oj, ops[j]? = some oj → j ≠ i → listed.getD j true = false → (∀ e ∈ oj.after, Region.binds .any e = true → e.on ≠ i) → o.apart ops oj = true := by
            intro j oj hj hne hun hno
            have hj' : ops.toList[j]? = some oj := by simpa using hj
            rcases freeM_mem hfr j oj hj' with h | h | h | h
            · exact (hne (by omega)).elim
            · rw [Nat.zero_add, ← hrel.bits j] at h
              have hlt : j < listed.size := by rw [hrel.size]; exact (Array.getElem?_eq_some_iff.1 hj).1
              simp [hlt] at h hun
              rw [h] at hun; cases hun
            · obtain ⟨e, h1, h2, h3⟩ := hasEdge_mem h
              exact (hno e (by simpa using h1) h3 h2).elim
            · exact apartO_ok h
          have take : ∀ v σ', Yields C.P ops o v a → Sat C σ' w (a.put o.dst v) → (∀ j, some j ≠ o.dst → (a.put o.dst v).tmps.getD j undef = a.tmps.getD j undef) → (forceN (setB m i) fun m => runM E' fn inl f ops.toList n m σ' K) = some res →
              wpAny C.P .any ops (fun e a w => e = .normal ∧ Q a w) (fuel + 1) listed a w := by
            intro v σ' hy hs' hk he'
            have hselj : ∀ (j : Nat) (oj : Oper) cs b, ops[j]? = some oj → oj.op ≠ .select cs b := by
              intro j oj cs b hj
              have hj' : ops.toList[j]? = some oj := by simpa using hj
              exact selO_op (noSel_mem hsel oj (List.mem_of_getElem? hj')) cs b
            exact wpAny_first ho' hselj (fun c a w h => by cases h.1) fuel listed a w hfree hir hy (hgo hir ho' hs' hk he')
          rcases hguard ho' he with ⟨σ1, hs1, hrun, hw⟩ | ⟨σ2, hs2, hK, hw, hk⟩
          · unfold quietE at hrun
            cases hst1 : steadyB E' σ1 o with
            | false => simp [hst1] at hrun
            | true =>
            simp only [hst1] at hrun
            cases hop : opD E' f none o σ1 with
            | none => simp [hop] at hrun
            | some p =>
              obtain ⟨c, sv, σ''⟩ := p
              simp only [hop] at hrun
              have hbr := br_some hrun
              clear hrun
              rcases hbr with ⟨rfl, hrun⟩ | ⟨_, hrun⟩
              · obtain ⟨hdf, I, β, F, hi⟩ := hs1
                obtain ⟨v, h1, h2⟩ := steady_ok hi hT hG hq hst1 hop
                obtain ⟨σ', k1, k2, k3⟩ := putK_ok hdf hi h2 hrun
                exact take v σ' (.inl ⟨hw, fun w => by rw [act_eval]; exact h1 w⟩) k2 k3 k1
              · cases hrun
          · exact take undef σ2 (.inr ⟨hw, rfl⟩) hs2 hk hK
        | none =>
          simp only [hfm] at he
          cases hsm : stillM E'.T ops.toList m (i0 :: l0) with
          | some i =>
            simp only [hsm] at he
            obtain ⟨hi1, o, B, ho, hcand, hfr⟩ := stillM_some hsm
            simp only [ho] at he
            rw [nthO_eq] at ho
            have ho' : ops[i]? = some o := by simpa using ho
            have hir := (hready i).1 hi1
            have hsz : i < ops.size := (Array.getElem?_eq_some_iff.1 ho').1
            have hun : ∀ j, j < ops.size → listed.getD j true = tb m j := fun j hj => by
              rw [← hrel.bits j]
              have : j < listed.size := by rw [hrel.size]; exact hj
              simp [this]
            have hiun : tb m i = false := by rw [← hun i hsz]; exact (mem_ready.1 hir).1
            have hfree : ∀ j oj, ops[j]? = some oj → j ≠ i → listed.getD j true = false → (∃ e ∈ oj.after, tb B e.on = true ∧ Region.binds .any e = true) ∨ (tb B j = false ∧ o.apart ops oj = true ∧ KeepO C.P oj) := by
              intro j oj hj hne hjun
              have hj' : ops.toList[j]? = some oj := by simpa using hj
              have hjs : j < ops.size := (Array.getElem?_eq_some_iff.1 hj).1
              rcases stillF_mem hfr j oj hj' with h | ⟨h1, h2, h3⟩ | ⟨h1, h2 | ⟨h2, h3⟩⟩
              · exact (hne (by omega)).elim
              · obtain ⟨e, he1, he2, he3⟩ := edgeTo_mem h3
                exact .inl ⟨e, by simpa using he1, he2, he3⟩
              · rw [Nat.zero_add, ← hun j hjs, hjun] at h2; cases h2
              · exact .inr ⟨by simpa using h1, apartO_ok h2, roB_keep (by rw [← hT]; exact h3)⟩
            have hBun : ∀ j, tb B j = true → listed.getD j false = false := by
              intro j hj
              rw [hrel.bits j]
              rcases Nat.lt_or_ge j ops.size with hjs | hjs
              · have hj' : ops.toList[j]? = some ops[j] := by simp [hjs]
                rcases stillF_mem hfr j ops[j] hj' with h | ⟨_, h2, _⟩ | ⟨h1, _⟩
                · rw [Nat.zero_add] at h; rw [h]; exact hiun
                · simpa using h2
                · rw [Nat.zero_add, hj] at h1; cases h1
              · rw [← hrel.bits j]
                have : ¬ j < listed.size := by rw [hrel.size]; omega
                simp [this]
            have hselj : ∀ (j : Nat) (oj : Oper) cs b, ops[j]? = some oj → oj.op ≠ .select cs b := by
              intro j oj cs b hj
              have hj' : ops.toList[j]? = some oj := by simpa using hj
              exact selO_op (noSel_mem hsel oj (List.mem_of_getElem? hj')) cs b
            have take : ∀ v σ', YieldsAt C.P ops o v a w → Sat C σ' w (a.put o.dst v) → (∀ j, some j ≠ o.dst → (a.put o.dst v).tmps.getD j undef = a.tmps.getD j undef) → (forceN (setB m i) fun m => runM E' fn inl f ops.toList n m σ' K) = some res →
                wpAny C.P .any ops (fun e a w => e = .normal ∧ Q a w) (fuel + 1) listed a w := by
              intro v σ' hy hs' hk he'
              exact wpAny_still ho' hselj (fun c a w h => by cases h.1) (fun ⟨_, _, h⟩ => by cases h.1) fuel listed a w hfree hBun hir hy (hgo hir ho' hs' hk he')
            rcases hguard ho' he with ⟨σ1, hs1, hrun, hw⟩ | ⟨σ2, hs2, hK, hw, hk⟩
            · unfold stillE at hrun
              obtain ⟨hdf, I, β, F, hi⟩ := hs1
              cases hop : opD E' f none o σ1 with
              | some p =>
                obtain ⟨c, sv, σ''⟩ := p
                simp only [hop] at hrun
                have hbr := br_some hrun
                clear hrun
                rcases hbr with ⟨rfl, hrun⟩ | ⟨_, hrun⟩
                · have hq : quietO E'.T o = true := by
                    unfold candO at hcand
                    unfold quietO
                    cases hoo : o.op <;> simp [hoo] at hcand ⊢
                  obtain ⟨v, h1, _, h2⟩ := opQ_ok hi (fun d w h => by cases h) hT hG hq hop
                  obtain ⟨σ', k1, k2, k3⟩ := putK_ok hdf hi h2 hrun
                  exact take v σ' (.inl ⟨hw, by rw [act_eval]; exact (cand_mono (by rw [← hT]; exact hcand) _ w _ _ h1).2⟩) k2 k3 k1
                · cases hrun
              | none =>
                simp only [hop] at hrun
                cases hoo : o.op with
                | load t x =>
                  simp only [hoo] at hrun
                  rw [hT, hG] at hrun
                  obtain ⟨σ', sv, v, β', F', g1, g2, g3, g4⟩ := loadK_ok hi (arg_ok hi (fun d w h => by cases h) x) hrun
                  obtain ⟨σ3, k1, k2, k3⟩ := putK_ok hdf g3 g4 g1
                  refine take v σ3 (.inl ⟨hw, ?_⟩) k2 k3 k1
                  rw [act_eval]
                  refine (cand_mono (by rw [← hT]; exact hcand) (evT a.tmps) w (.value v) w ?_).2
                  unfold execOp
                  simp only [hoo, Sem.run_bind, g2, Result.andThen_ok, Sem.run_pure]
                | lookup t x y ok =>
                  simp only [hoo] at hrun
                  rw [hT, hG] at hrun
                  obtain ⟨σ', sv, v, β', F', g1, g2, g3, g4⟩ := lookK_ok hi (arg_ok hi (fun d w h => by cases h) x) (arg_ok hi (fun d w h => by cases h) y) hrun
                  obtain ⟨σ3, k1, k2, k3⟩ := putK_ok hdf g3 g4 g1
                  refine take v σ3 (.inl ⟨hw, ?_⟩) k2 k3 k1
                  rw [act_eval]
                  refine (cand_mono (by rw [← hT]; exact hcand) (evT a.tmps) w (.value v) w ?_).2
                  unfold execOp
                  simp only [hoo, Sem.run_bind, g2, Result.andThen_ok, Sem.run_pure]
                | _ => simp [hoo] at hrun
            · exact take undef σ2 (.inr ⟨hw, rfl⟩) hs2 hk hK
          | none =>
          simp only [hsm] at he
          have hall := allM_some he
          refine ⟨fun h0 => ?_, fun i hi => ?_⟩
          · have : i0 ∈ Region.ready .any ops listed := (hready i0).1 (by simp)
            rw [h0] at this; cases this
          · have he' := hall i ((hready i).2 hi)
            try simp only at he'
            cases ho : nthO ops.toList i with
            | none => simp [ho] at he'
            | some o =>
              simp only [ho] at he'
              rw [nthO_eq] at ho
              have ho' : ops[i]? = some o := by simpa using ho
              unfold wpOp
              simp only [ho']
              rcases hguard ho' he' with ⟨σ1, hs1, hrun, hw⟩ | ⟨σ2, hs2, hK, hw, hk⟩
              · simp only [hw, if_true]
                refine .inl ?_
                exact doOp_ok hT hG hfn hin hs1 hrun fun σ' a' w' h1 h2 h3 => hgo hi ho' h2 h3 h1
              · simp only [hw, Bool.false_eq_true, if_false]
                exact hgo hi ho' hs2 hk hK
theorem runDraw_ok {R : Type} {E' : Env} {fn : E'.Fn} {inl : Inl} {f : FuncId} (hT : E'.T = C.T) (hG : E'.G = C.G) (hfn : FnOk C.P E' fn) (hin : InlOk C.P E' inl) (hmx : C.P.follows .mixedOrders = true) {id : Nat} {ops : Array Oper} {σ : St} {w : World} {a : Act} {K : St → Option R} {res : R} {Q : Exit → Act → World → Prop}
    (hs : Sat C σ w a) (he : runDraw E' fn inl f ops.toList σ K = some res)
    (hQ : ∀ σ' a' w', K σ' = some res → Sat C σ' w' a' → (∀ i, i ∉ dstL ops.toList → a'.tmps.getD i undef = a.tmps.getD i undef) → Q .normal a' w') : (Code.region id ops true).wp C.P Q a w := by
  unfold runDraw at he
  cases hsel : noSel ops.toList with
  | false => simp [hsel] at he
  | true =>
    simp only [hsel] at he
    refine wp_mono (Q := fun e a' w' => e = .normal ∧ Q .normal a' w') ?_ fun e a w ⟨he, hh⟩ => by subst he; exact hh
    refine wp_region_any hmx ?_
    obtain ⟨hd, I, β, F, hi⟩ := hs
    have h1 : Inv C I β F { t := σ.t, c := [], r := σ.r, n := σ.n, b := σ.b, k := σ.k } w a.tmps := hi.reslot hi.size hi.slots (fun k e u v hm => by simp at hm) (fun k e u v hm => by simp at hm)
    exact runM_ok hT hG hfn hin ops hsel a (Q := fun a w => Q .normal a w) hQ ops.size ops.toList.length 0 (Rel.zero ops) (by unfold left; exact Nat.le_trans (List.length_filter_le _ _) (by simp)) ⟨hd, I, β, F, h1.same rfl⟩ (fun _ _ => rfl) he
end
end Go.Proofs.YthlpjdjipchdkaaDoor.E

namespace Go.Proofs.YthlpjdjipchdkaaDoor.E
open Go
set_option linter.unusedSimpArgs false
set_option linter.unusedVariables false
theorem region_ok {R : Type} {P : Program} {E' : Env} {fn : E'.Fn} {inl : Inl} {f : FuncId} (hmx : P.follows .mixedOrders = true) (hfn : FnOk P E' fn) (hin : InlOk P E' inl) {rs : List Ty} {rv : List ResultVar} {id : Nat} {ops : Array Oper} {draw : Bool} {σ : St} {K : Ex (denL rs) → St → Option R} {res : R}
    (he : (match draw with | false => runOps E' fn inl f ops.toList ops.toList σ (K .n) | true => runDraw E' fn inl f ops.toList σ (K .n)) = some res) {C : Ctx} (hP : C.P = P) (hT : C.T = E'.T) (hG : C.G = E'.G) {w : World} {a : Act} {Q : Exit → Act → World → Prop} (hs : Sat C σ w a)
    (hQ : ∀ e σ' a' w', K e σ' = some res → e = .n → SatE C rs rv e σ' w' a' → Keep (dsts (.region id ops draw)) a a' → Q (exitOf e) a' w') : (Code.region id ops draw).wp P Q a w := by
  subst hP
  have hk : ∀ a' : Act, (∀ i, i ∉ dstL ops.toList → a'.tmps.getD i undef = a.tmps.getD i undef) → Keep (dsts (.region id ops draw)) a a' := fun a' h i hi => h i (not_mem_of hi)
  cases draw with
  | false =>
    refine wp_region ?_
    have := runOps_ok (Q := Q) hT.symm hG.symm hfn hin ops a ops.toList 0 rfl hs (fun _ _ => rfl) he fun σ' a' w' h1 h2 h3 => hQ .n σ' a' w' h1 rfl h2 (hk a' h3)
    rwa [← List.range_eq_range', Array.length_toList] at this
  | true => exact runDraw_ok hT.symm hG.symm hfn hin hmx hs he fun σ' a' w' h1 h2 h3 => hQ .n σ' a' w' h1 rfl h2 (hk a' h3)
theorem block_ok {R : Type} {P : Program} {E' : Env} {fn : E'.Fn} {inl : Inl} {f : FuncId} {rv : List ResultVar} {k id : Nat} {c : Code}
    (ih : ∀ {R : Type} {σ : St} {K : Ex (denL (E'.sig f).rs) → St → Option R} {res : R}, ev E' fn inl f rv k c R σ K = some res → ∀ {C : Ctx}, C.P = P → C.T = E'.T → C.G = E'.G → ∀ {w a Q}, Sat C σ w a →
      (∀ e σ' a' w', K e σ' = some res → SatE C (E'.sig f).rs rv e σ' w' a' → Keep (dsts c) a a' → Q (exitOf e) a' w') → c.wp P Q a w)
    {σ : St} {K : Ex (denL (E'.sig f).rs) → St → Option R} {res : R}
    (he : (match E'.ann σ.b f id with
      | some cut => cutK σ (dsts c) cut (fun kv xv => loopF false id σ.n σ.b f cut kv (fun σ K => ev E' fn inl f rv k c _ σ K) 1 xv) K
      | none => ev E' fn inl f rv k c R σ fun e σ' => match e with
        | .e j => br (Nat.beq j id) (K .n σ') (K (.e j) σ')
        | e => K e σ') = some res) {C : Ctx} (hP : C.P = P) (hT : C.T = E'.T) (hG : C.G = E'.G) {w : World} {a : Act} {Q : Exit → Act → World → Prop} (hs : Sat C σ w a)
    (hQ : ∀ e σ' a' w', K e σ' = some res → SatE C (E'.sig f).rs rv e σ' w' a' → Keep (dsts c) a a' → Q (exitOf e) a' w') : (Code.block id c).wp P Q a w := by
  cases ha : E'.ann σ.b f id with
  | some cut =>
    simp only [ha] at he
    have := cutK_ok (code := .block id c) (Q := Q) hs he (fun C' σ1 kv xv r h1 h2 h2' h2'' e1 e2 h3 h4 h5 h6 Q' hQ' => by
      rw [hP]
      refine wp_block ?_
      exact once_ok (rs := (E'.sig f).rs) (rv := rv) h3 h2'' h5 (fun he hs hq => ih he (h1.trans hP) (h2.trans hT) (h2'.trans hG) hs hq) hQ' h4 h6) hQ
    rwa [hP] at this
  | none =>
    simp only [ha] at he
    refine wp_block (ih he hP hT hG hs fun e σ' a' w' h1 h2 h3 => ?_)
    cases e with
    | n => exact hQ .n σ' a' w' h1 h2 h3
    | r q => exact hQ (.r q) σ' a' w' h1 h2 h3
    | e j =>
      simp only at h1
      show Exit.inBlock id Q (.exit j) a' w'
      cases hj : Nat.beq j id with
      | true =>
        rw [hj] at h1
        obtain rfl := Nat.eq_of_beq_eq_true hj
        simp only [Exit.inBlock, if_true]
        exact hQ .n σ' a' w' h1 h2 h3
      | false =>
        rw [hj] at h1
        have hne : j ≠ id := by rintro rfl; simp at hj
        simp only [Exit.inBlock, if_neg hne]
        exact hQ (.e j) σ' a' w' h1 h2 h3
theorem unroll_ok {R : Type} {P : Program} {E' : Env} {fn : E'.Fn} {inl : Inl} {f : FuncId} {rv : List ResultVar} {k id : Nat} {c : Code}
    (ih : ∀ {σ : St} {K : Ex (denL (E'.sig f).rs) → St → Option R} {res : R}, ev E' fn inl f rv k c R σ K = some res → ∀ {C : Ctx}, C.P = P → C.T = E'.T → C.G = E'.G → ∀ {w a Q}, Sat C σ w a →
      (∀ e σ' a' w', K e σ' = some res → SatE C (E'.sig f).rs rv e σ' w' a' → Keep (dsts c) a a' → Q (exitOf e) a' w') → c.wp P Q a w)
    {K : Ex (denL (E'.sig f).rs) → St → Option R} {res : R} {C : Ctx} (hP : C.P = P) (hT : C.T = E'.T) (hG : C.G = E'.G) {a0 : Act} {Q : Exit → Act → World → Prop} {n : Nat} {σ : St} {w : World} {a : Act}
    (he : unroll (fun σ K => ev E' fn inl f rv k c R σ K) id K n σ = some res) (hs : Sat C σ w a) (hk : Keep (dsts c) a0 a)
    (hQ : ∀ e σ' a' w', K e σ' = some res → SatE C (E'.sig f).rs rv e σ' w' a' → Keep (dsts c) a0 a' → Q (exitOf e) a' w') : (Code.loop c).wp P (Exit.inBlock id Q) a w := by
  refine wp_loop_ind (A := Unit) (fun n _ a w => ∃ σ, unroll (fun σ K => ev E' fn inl f rv k c R σ K) id K n σ = some res ∧ Sat C σ w a ∧ Keep (dsts c) a0 a) _ ?_ n () a w ⟨σ, he, hs, hk⟩
  rintro n _ a w ⟨σ, he, hs, hk⟩
  cases n with
  | zero => simp [unroll] at he
  | succ n =>
    simp only [unroll] at he
    refine ih he hP hT hG hs fun e σ' a' w' h1 h2 h3 => ?_
    have h3 := hk.trans h3
    cases e with
    | n => exact ⟨n, (), Nat.lt_succ_self n, σ', h1, h2, h3⟩
    | r q => exact hQ (.r q) σ' a' w' h1 h2 h3
    | e j =>
      simp only at h1
      show Exit.inBlock id Q (.exit j) a' w'
      cases hj : Nat.beq j id with
      | true =>
        rw [hj] at h1
        obtain rfl := Nat.eq_of_beq_eq_true hj
        simp only [Exit.inBlock, if_true]
        exact hQ .n σ' a' w' h1 h2 h3
      | false =>
        rw [hj] at h1
        have hne : j ≠ id := by rintro rfl; simp at hj
        simp only [Exit.inBlock, if_neg hne]
        exact hQ (.e j) σ' a' w' h1 h2 h3
theorem guardE_some {Q R : Type} {id : Nat} {K : Ex Q → St → Option R} {e : Ex Q} {σ : St} {r : R} (h : guardE id K e σ = some r) : K e σ = some r ∧ ∀ j, e = .e j → j ≠ id := by
  cases e with
  | n => exact ⟨h, fun j e => by cases e⟩
  | r q => exact ⟨h, fun j e => by cases e⟩
  | e j =>
    simp only [guardE] at h
    rcases br_some h with ⟨_, h⟩ | ⟨hj, h⟩
    · cases h
    · refine ⟨h, fun k e => ?_⟩
      cases e
      rintro rfl; simp at hj
theorem ev_ok {P : Program} {E' : Env} {fn : E'.Fn} {inl : Inl} (hmx : P.follows .mixedOrders = true) (hfn : FnOk P E' fn) (hin : InlOk P E' inl) (f : FuncId) (rv : List ResultVar) (k : Nat) : ∀ (c : Code) {R : Type} {σ : St} {K : Ex (denL (E'.sig f).rs) → St → Option R} {res : R}, ev E' fn inl f rv k c R σ K = some res → ∀ {C : Ctx}, C.P = P → C.T = E'.T → C.G = E'.G → ∀ {w a Q}, Sat C σ w a →
      (∀ e σ' a' w', K e σ' = some res → SatE C (E'.sig f).rs rv e σ' w' a' → Keep (dsts c) a a' → Q (exitOf e) a' w') → c.wp P Q a w
  | .skip, R, σ, K, res, he, C, hP, hT, hG, w, a, Q, hs, hQ => wp_skip (hQ .n σ a w he hs Keep.rfl)
  | .region id ops draw, R, σ, K, res, he, C, hP, hT, hG, w, a, Q, hs, hQ => by
    simp only [ev] at he
    cases ha : E'.ann σ.b f (2000 + id) with
    | none =>
      simp only [ha] at he
      exact region_ok hmx hfn hin he hP hT hG hs fun e σ' a' w' h1 _ h2 h3 => hQ e σ' a' w' h1 h2 h3
    | some cut =>
      simp only [ha] at he
      have := cutK_ok (code := .region id ops draw) (Q := Q) hs he (fun C' σ1 kv xv r h1 h2 h2' h2'' e1 e2 h3 h4 h5 h6 Q' hQ' => by
        rw [hP]
        refine once2_ok (rs := (E'.sig f).rs) (rv := rv) h3 h2'' h5 (fun {σ2 K2 res2 w2 a2 Q2} he2 hs2 hq => ?_) hQ' h4 h6
        exact region_ok hmx hfn hin he2 (h1.trans hP) (h2.trans hT) (h2'.trans hG) hs2 fun e σ' a' w' g1 g0 g2 g3 => hq e σ' a' w' g1 (fun j e' => by rw [g0] at e'; cases e') g2 g3) hQ
      rwa [hP] at this
  | .seq x y, R, σ, K, res, he, C, hP, hT, hG, w, a, Q, hs, hQ => by
    refine wp_seq (ev_ok hmx hfn hin f rv k x he hP hT hG hs fun e σ' a' w' h1 h2 h3 => ?_)
    cases e with
    | n => exact ev_ok hmx hfn hin f rv k y h1 hP hT hG h2 fun e σ2 a2 w2 g1 g2 g3 => hQ e σ2 a2 w2 g1 g2 (h3.left.trans g3.right)
    | e j => exact hQ (.e j) σ' a' w' h1 h2 h3.left
    | r q => exact hQ (.r q) σ' a' w' h1 h2 h3.left
  | .cond c x y, R, σ, K, res, he, C, hP, hT, hG, w, a, Q, hs, hQ => by
    have val : ∀ {C : Ctx} {σ : St} {w : World} {a : Act} {g : Bool}, C.G = E'.G → Sat C σ w a → asB (σ.arg E'.G none c) = some g → a.eval c = .bool g := by
      rintro C σ w a g hG ⟨hd, I, β, F, hi⟩ hg
      rw [act_eval]
      rw [← hG] at hg
      exact asB_ok (arg_ok hi (fun d w h => by cases h) c) hg
    simp only [ev] at he
    cases ha : E'.ann σ.b f (1000 + ridOf x) with
    | none =>
      simp only [ha] at he
      cases hg : asB (σ.arg E'.G none c) with
      | none => simp [hg] at he
      | some g =>
        simp only [hg] at he
        refine wp_cond (val hG hs hg) ?_
        rcases br_some he with ⟨rfl, he⟩ | ⟨rfl, he⟩
        · exact ev_ok hmx hfn hin f rv k x he hP hT hG hs fun e σ' a' w' h1 h2 h3 => hQ e σ' a' w' h1 h2 h3.left
        · exact ev_ok hmx hfn hin f rv k y he hP hT hG hs fun e σ' a' w' h1 h2 h3 => hQ e σ' a' w' h1 h2 h3.right
    | some cut =>
      simp only [ha] at he
      have := cutK_ok (code := .cond c x y) (Q := Q) hs he (fun C' σ1 kv xv r h1 h2 h2' h2'' e1 e2 h3 h4 h5 h6 Q' hQ' => by
        rw [hP]
        refine once2_ok (rs := (E'.sig f).rs) (rv := rv) h3 h2'' h5 (fun {σ2 K2 res2 w2 a2 Q2} he2 hs2 hq => ?_) hQ' h4 h6
        try simp only at he2
        cases hg : asB (σ2.arg E'.G none c) with
        | none => simp [hg] at he2
        | some g =>
          simp only [hg] at he2
          refine wp_cond (val (h2'.trans hG) hs2 hg) ?_
          rcases br_some he2 with ⟨rfl, he⟩ | ⟨rfl, he⟩
          · exact ev_ok hmx hfn hin f rv k x he (h1.trans hP) (h2.trans hT) (h2'.trans hG) hs2 fun e σ' a' w' g1 g2 g3 => hq e σ' a' w' (guardE_some g1).1 (guardE_some g1).2 g2 g3.left
          · exact ev_ok hmx hfn hin f rv k y he (h1.trans hP) (h2.trans hT) (h2'.trans hG) hs2 fun e σ' a' w' g1 g2 g3 => hq e σ' a' w' (guardE_some g1).1 (guardE_some g1).2 g2 g3.right) hQ
      rwa [hP] at this
  | .block id (.loop c), R, σ, K, res, he, C, hP, hT, hG, w, a, Q, hs, hQ => by
    simp only [ev] at he
    cases ha : E'.ann σ.b f id with
    | none =>
      simp only [ha] at he
      cases hu : E'.cutAt f (3000 + id) with
      | false => simp [hu] at he
      | true =>
        simp only [hu] at he
        exact wp_block (unroll_ok (fun {σ K res} he {C} hP hT hG {w a Q} hs hq => ev_ok hmx hfn hin f rv k c he hP hT hG hs hq) hP hT hG he hs Keep.rfl hQ)
    | some cut =>
      simp only [ha] at he
      have := cutK_ok (code := .block id (.loop c)) (Q := Q) hs he (fun C' σ1 kv xv r h1 h2 h2' h2'' e1 e2 h3 h4 h5 h6 Q' hQ' => by
        rw [hP]
        refine wp_block ?_
        exact loop_ok (rs := (E'.sig f).rs) (rv := rv) h3 h2'' h5 (fun he hs hq => ev_ok hmx hfn hin f rv k c he (h1.trans hP) (h2.trans hT) (h2'.trans hG) hs hq) hQ' k xv a w h4 Keep.rfl h6) hQ
      rwa [hP] at this
  | .block id (.skip), R, σ, K, res, he, C, hP, hT, hG, w, a, Q, hs, hQ => block_ok (c := .skip) (ev_ok hmx hfn hin f rv k _) he hP hT hG hs hQ
  | .block id (.region x y z), R, σ, K, res, he, C, hP, hT, hG, w, a, Q, hs, hQ => block_ok (c := .region x y z) (ev_ok hmx hfn hin f rv k _) he hP hT hG hs hQ
  | .block id (.seq x y), R, σ, K, res, he, C, hP, hT, hG, w, a, Q, hs, hQ => block_ok (c := .seq x y) (ev_ok hmx hfn hin f rv k _) he hP hT hG hs hQ
  | .block id (.cond x y z), R, σ, K, res, he, C, hP, hT, hG, w, a, Q, hs, hQ => block_ok (c := .cond x y z) (ev_ok hmx hfn hin f rv k _) he hP hT hG hs hQ
  | .block id (.block x y), R, σ, K, res, he, C, hP, hT, hG, w, a, Q, hs, hQ => block_ok (c := .block x y) (ev_ok hmx hfn hin f rv k _) he hP hT hG hs hQ
  | .block id (.exit x), R, σ, K, res, he, C, hP, hT, hG, w, a, Q, hs, hQ => block_ok (c := .exit x) (ev_ok hmx hfn hin f rv k _) he hP hT hG hs hQ
  | .block id (.ret), R, σ, K, res, he, C, hP, hT, hG, w, a, Q, hs, hQ => block_ok (c := .ret) (ev_ok hmx hfn hin f rv k _) he hP hT hG hs hQ
  | .block id (.rangeFunc x y z u), R, σ, K, res, he, C, hP, hT, hG, w, a, Q, hs, hQ => block_ok (c := .rangeFunc x y z u) (ev_ok hmx hfn hin f rv k _) he hP hT hG hs hQ
  | .block id (.scope x), R, σ, K, res, he, C, hP, hT, hG, w, a, Q, hs, hQ => block_ok (c := .scope x) (ev_ok hmx hfn hin f rv k _) he hP hT hG hs hQ
  | .block id (.label x), R, σ, K, res, he, C, hP, hT, hG, w, a, Q, hs, hQ => block_ok (c := .label x) (ev_ok hmx hfn hin f rv k _) he hP hT hG hs hQ
  | .block id (.goto x), R, σ, K, res, he, C, hP, hT, hG, w, a, Q, hs, hQ => block_ok (c := .goto x) (ev_ok hmx hfn hin f rv k _) he hP hT hG hs hQ
  | .block id (.refuse x), R, σ, K, res, he, C, hP, hT, hG, w, a, Q, hs, hQ => block_ok (c := .refuse x) (ev_ok hmx hfn hin f rv k _) he hP hT hG hs hQ
  | .refuse _, R, σ, K, res, he, C, hP, hT, hG, w, a, Q, hs, hQ => by simp [ev] at he
  | .rangeFunc _ _ _ _, R, σ, K, res, he, C, hP, hT, hG, w, a, Q, hs, hQ => by simp [ev] at he
  | .scope _, R, σ, K, res, he, C, hP, hT, hG, w, a, Q, hs, hQ => by simp [ev] at he
  | .label _, R, σ, K, res, he, C, hP, hT, hG, w, a, Q, hs, hQ => by simp [ev] at he
  | .goto _, R, σ, K, res, he, C, hP, hT, hG, w, a, Q, hs, hQ => by simp [ev] at he
  | .exit id, R, σ, K, res, he, C, hP, hT, hG, w, a, Q, hs, hQ => wp_exit (hQ (.e id) σ a w he hs Keep.rfl)
  | .ret, R, σ, K, res, he, C, hP, hT, hG, w, a, Q, hs, hQ => by
    simp only [ev] at he
    rw [← hT] at he
    cases ht : takesV C.T (E'.sig f).rs rv σ with
    | none => simp [ht] at he
    | some p =>
      obtain ⟨q, σ'⟩ := p
      simp only [ht] at he
      exact wp_ret (hQ (.r q) σ' a w he (ret_ok hs ht) Keep.rfl)
  | .loop _, R, σ, K, res, he, C, hP, hT, hG, w, a, Q, hs, hQ => by simp [ev] at he
end Go.Proofs.YthlpjdjipchdkaaDoor.E

namespace Go.Proofs.YthlpjdjipchdkaaDoor.E
open Go
set_option linter.unusedSimpArgs false
set_option linter.unusedVariables false
section
variable {h : Hp} {L I : Set'}
theorem argsR_len : ∀ (ps : List (Bool × Ty)) {a : denL (ps.map (·.2))} {vs : List Value} {Xs : List (List Nat)}, ArgsR h L I ps a vs Xs → vs.length = ps.length ∧ Xs.length = ps.length
  | [], _, [], [], _ => ⟨rfl, rfl⟩
  | [], _, _ :: _, _, hr | [], _, [], _ :: _, hr => hr.elim
  | _ :: _, _, [], _, hr | _ :: _, _, _ :: _, [], hr => hr.elim
  | (_, _) :: ps, (_, _), v :: vs, X :: Xs, ⟨_, hr⟩ => by
    obtain ⟨h1, h2⟩ := argsR_len ps hr
    simp [h1, h2]
def argβ (τ : Ty) (v : Value) : Value :=
  match τ, v with
  | .pair _ _, .agg a => a.getD 0 undef
  | _, v => v
structure Start (h : Hp) (L I : Set') (β : Nat → Value) (F : Nat → List Nat) (k : Nat) (vs : List Value) (l : List (Nat × SV)) (ρ : List (Nat × Root)) : Prop where
  slots : ∀ i sv, (i, sv) ∈ l → k ≤ i ∧ SVR h L I β ρ sv (vs.getD (i - k) undef) ∧ ∀ r, sv.uses r = true → k ≤ r
  roots : ∀ r R, look ρ r = some R → k ≤ r ∧ RootR h L I (β r) R (F r) ∧ ∀ ρ', RootH h β ρ' (β r) R
theorem Start.cons {β : Nat → Value} {F : Nat → List Nat} {k : Nat} {v : Value} {vs : List Value} {l : List (Nat × SV)} {ρ : List (Nat × Root)} {sv : SV} (hS : Start h L I β F (k + 1) vs l ρ)
    (hsv : SVR h L I β ρ sv v) (hu : ∀ r, sv.uses r = false) : Start h L I β F k (v :: vs) ((k, sv) :: l) ρ := by
  constructor
  · intro i s hm
    rcases List.mem_cons.1 hm with hm | hm
    · simp only [Prod.mk.injEq] at hm
      obtain ⟨rfl, rfl⟩ := hm
      exact ⟨Nat.le_refl _, by simpa using hsv, fun r hr => by rw [hu r] at hr; cases hr⟩
    · obtain ⟨h1, h2, h3⟩ := hS.slots i s hm
      refine ⟨by omega, ?_, fun r hr => by have := h3 r hr; omega⟩
      have e : i - k = (i - (k + 1)) + 1 := by omega
      rw [e, List.getD_cons_succ]
      exact h2
  · intro r R hl
    obtain ⟨h1, h2⟩ := hS.roots r R hl
    exact ⟨by omega, h2⟩
theorem Start.consR {β : Nat → Value} {F : Nat → List Nat} {k : Nat} {v : Value} {vs : List Value} {l : List (Nat × SV)} {ρ : List (Nat × Root)} {sv : SV} {R : Root} (hS : Start h L I β F (k + 1) vs l ρ)
    (hsv : SVR h L I β ((k, R) :: ρ) sv v) (hu : ∀ r, sv.uses r = true → k ≤ r) (hR : RootR h L I (β k) R (F k)) (hH : ∀ ρ', RootH h β ρ' (β k) R) : Start h L I β F k (v :: vs) ((k, sv) :: l) ((k, R) :: ρ) := by
  constructor
  · intro i s hm
    rcases List.mem_cons.1 hm with hm | hm
    · simp only [Prod.mk.injEq] at hm
      obtain ⟨rfl, rfl⟩ := hm
      exact ⟨Nat.le_refl _, by simpa using hsv, hu⟩
    · obtain ⟨h1, h2, h3⟩ := hS.slots i s hm
      refine ⟨by omega, ?_, fun r hr => by have := h3 r hr; omega⟩
      have e : i - k = (i - (k + 1)) + 1 := by omega
      rw [e, List.getD_cons_succ]
      refine SVR.mono (fun b hb => ⟨hb, rfl⟩) (fun _ _ => rfl) (fun r hr => ?_) h2
      have := h3 r hr
      simp only [Same, look_cons_ne (show r ≠ k by omega)]
      exact ⟨LikeO.refl _, by simp⟩
  · intro r R' hl
    by_cases e : r = k
    · subst e
      rw [look_cons_same] at hl
      obtain rfl := Option.some.inj hl
      exact ⟨Nat.le_refl _, hR, hH⟩
    · rw [look_cons_ne e] at hl
      obtain ⟨h1, h2⟩ := hS.roots r R' hl
      exact ⟨by omega, h2⟩
theorem solid_uses {l : Bool} {t : Ty} {a : den t} (hs : solid t = true) (r : Nat) : (mkv l t a).uses r = false := by
  cases hq : (mkv l t a).uses r with
  | false => rfl
  | true =>
    simp only [mkv, SV.uses, SV.uses0] at hq
    obtain ⟨p, hp, _⟩ := (holeIn_iff (o := 0)).1 hq
    rw [solid_iff hs] at hp
    exact absurd hp (by simp)
def initG (len : Bool) (τ : Ty) (a : den τ) (n : Nat) (l : List (Nat × SV)) (ρ : List (Nat × Root)) : List (Nat × SV) × List (Nat × Root) :=
  match len with
  | true => match τ, a with
    | .ref false t, a => ((n, .q true t a) :: l, ρ)
    | τ, a => ((n, mkv true τ a) :: l, ρ)
  | false => match τ, a with
    | .sl true t, a => ((n, .sf n) :: l, (n, .arr false false t a) :: ρ)
    | .map true k v, a => ((n, .mp n) :: l, (n, .map false k v a none) :: ρ)
    | τ, a => ((n, match τ.flat with | true => mkv false τ a | false => .x) :: l, ρ)
theorem initV_forms (len : Bool) (τ : Ty) : (∃ t, τ = .ref true t) ∨ (∃ t, τ = .pair (.ref true t) .unit) ∨ (ioTy τ = none ∧ ∀ (ps : List (Bool × Ty)) (a : den τ) (r : denL (ps.map (·.2))) (n : Nat), initV ((len, τ) :: ps) (a, r) n = initG len τ a n (initV ps r (n + 1)).1 (initV ps r (n + 1)).2) := by
  cases τ with
  | ref o u =>
    cases o with
    | true => exact .inl ⟨u, rfl⟩
    | false => exact .inr (.inr ⟨rfl, fun _ _ _ _ => by cases len <;> rfl⟩)
  | pair x y =>
    cases x with
    | ref o u =>
      cases o with
      | true => cases y <;> first | exact .inr (.inl ⟨u, rfl⟩) | exact .inr (.inr ⟨rfl, fun _ _ _ _ => by cases len <;> rfl⟩)
      | false => exact .inr (.inr ⟨rfl, fun _ _ _ _ => by cases len <;> rfl⟩)
    | _ => exact .inr (.inr ⟨rfl, fun _ _ _ _ => by cases len <;> rfl⟩)
  | _ => exact .inr (.inr ⟨rfl, fun _ _ _ _ => by cases len <;> rfl⟩)
theorem mkv_svr {len : Bool} {t : Ty} {a : den t} {v : Value} {β : Nat → Value} {ρ : List (Nat × Root)} (hs : solid t = true) (hr : ∃ cs, Rep h (Sx L I len) true t a cs [] ∧ v = wrapV t cs) : SVR h L I β ρ (mkv len t a) v := by
  obtain ⟨cs, h1, rfl⟩ := hr
  exact mkv_ok h1 (Holes.solid hs)
theorem initV_ok : ∀ (ps : List (Bool × Ty)) {a : denL (ps.map (·.2))} {vs : List Value} {Xs : List (List Nat)} {k : Nat} {β : Nat → Value} {F : Nat → List Nat}, sigSolid ps = true → ArgsR h L I ps a vs Xs → (∀ j, j < ps.length → β (k + j) = argβ (ps.getD j (false, .unit)).2 (vs.getD j undef)) → (∀ j, F (k + j) = Xs.getD j []) →
    Start h L I β F k vs (initV ps a k).1 (initV ps a k).2
  | [], _, [], [], k, β, F, _, _, _, _ => ⟨by intro i sv hm; simp [initV] at hm, by intro r R hl; simp [initV, look] at hl⟩
  | [], _, _ :: _, _, _, _, _, _, hr, _, _ | [], _, [], _ :: _, _, _, _, _, hr, _, _ => hr.elim
  | _ :: _, _, [], _, _, _, _, _, hr, _, _ | _ :: _, _, _ :: _, [], _, _, _, _, hr, _, _ => hr.elim
  | (len, τ) :: ps, (a, x), v :: vs, X :: Xs, k, β, F, hsol, ⟨⟨cs, hr, hv⟩, hrs⟩, hβ, hF => by
    subst hv
    simp only [sigSolid, Bool.and_eq_true] at hsol
    obtain ⟨⟨hs1, hs2⟩, hs3⟩ := hsol
    have ih := initV_ok ps hs3 hrs (k := k + 1) (β := β) (F := F) (fun j hj => by have := hβ (j + 1) (by simp; omega); rw [show k + 1 + j = k + (j + 1) by omega, this]; rfl) (fun j => by have := hF (j + 1); rw [show k + 1 + j = k + (j + 1) by omega, this]; rfl)
    have hβ0 : β k = argβ τ (wrapV τ cs) := by have := hβ 0 (by simp); simpa using this
    have hF0 : F k = X := by have := hF 0; simpa using this
    rcases initV_forms len τ with ⟨t, rfl⟩ | ⟨t, rfl⟩ | ⟨hio, hg⟩
    · have hr : Rep h (Sx L I len) false (.ref true t) a cs X := hr
      obtain ⟨v0, rfl, _, hH⟩ := ref_ptr hr (by simpa [ioTy] using hs2)
      have e : β k = v0 := hβ0
      have hR : RootR h L I (β k) (.box len t a) (F k) := by rw [e, hF0]; exact hr
      refine ih.consR (R := .box len t a) ⟨.box len t a, 0, t, look_cons_same, rfl, trivial, ?_⟩ (fun r hr => by simp only [SV.uses, SV.uses0] at hr; rw [Nat.eq_of_beq_eq_true hr]; exact Nat.le_refl _) hR (fun ρ' => by rw [e]; exact hH _ _ _)
      obtain ⟨b, arr, E, fr, e1, _⟩ := hH β [] len
      show v0 = _
      rw [e, e1]; simp [ptrOf]
    · have hr : Rep h (Sx L I len) false (.pair (.ref true t) .unit) a cs X := hr
      obtain ⟨c1, c2, X1, X2, rfl, rfl, h1, rfl, rfl⟩ := hr
      obtain ⟨v0, rfl, h1', hH⟩ := ref_ptr h1 (by simpa [ioTy] using hs2)
      have e : β k = v0 := by rw [hβ0]; rfl
      have hR : RootR h L I (β k) (.box len t a.1) (F k) := by rw [e, hF0, List.append_nil]; exact h1
      refine ih.consR (R := .box len t a.1) (sv := .v false (.pair (.hole k) .unit) ((), ())) ⟨[v0], ⟨[v0], [], [], [], rfl, rfl, ⟨⟨v0, rfl, h1'⟩, rfl⟩, rfl, rfl⟩, rfl, fun p hp _ => ?_⟩ (fun r hr => ?_) hR (fun ρ' => by rw [e]; exact hH _ _ _)
      · simp [holesOf] at hp
        subst hp
        simp [e]
      · simp only [SV.uses, SV.uses0, holeIn, Bool.or_false] at hr
        rw [Nat.eq_of_beq_eq_true hr]; exact Nat.le_refl _
    · have hr : Rep h (Sx L I len) len τ a cs X := by unfold ArgR at hr; rw [hio] at hr; exact hr
      rw [hg]
      unfold initG
      cases len with
      | true =>
        have hX := Rep.lentX hr
        subst hX
        have gen : Start h L I β F k (wrapV τ cs :: vs) ((k, mkv true τ a) :: (initV ps x (k + 1)).1) (initV ps x (k + 1)).2 := ih.cons (mkv_svr hs1 ⟨cs, hr, rfl⟩) (solid_uses hs1)
        cases τ with
        | ref o t =>
          cases o with
          | false =>
            obtain ⟨v0, rfl⟩ : ∃ v0, cs = [v0] := by have := hr.len; simp [Ty.size] at this; exact List.length_eq_one_iff.1 this
            exact ih.cons (sv := .q true t a) (show Rep h (Sx L I true) true (.ref false t) a [v0] [] from hr) (fun _ => rfl)
          | true => exact gen
        | _ => exact gen
      | false =>
        have flatC : Start h L I β F k (wrapV τ cs :: vs) ((k, match τ.flat with | true => mkv false τ a | false => .x) :: (initV ps x (k + 1)).1) (initV ps x (k + 1)).2 := by
          cases hf : τ.flat with
          | false => exact ih.cons trivial (fun _ => rfl)
          | true => exact ih.cons (mkv_svr hs1 ⟨cs, (Rep.flat hf hr).2, rfl⟩) (solid_uses hs1)
        cases τ with
        | sl o t =>
          cases o with
          | true =>
            obtain ⟨v0, rfl⟩ : ∃ v0, cs = [v0] := by have := hr.len; simp [Ty.size] at this; exact List.length_eq_one_iff.1 this
            have e : β k = v0 := hβ0
            have hR : RootR h L I (β k) (.arr false false t a) (F k) := by rw [e, hF0]; exact ⟨hr, fun e => by cases e⟩
            exact ih.consR (R := .arr false false t a) (sv := .sf k) ⟨false, false, t, a, look_cons_same, e.symm⟩ (fun r hr => by simp only [SV.uses, SV.uses0] at hr; rw [Nat.eq_of_beq_eq_true hr]; exact Nat.le_refl _) hR (fun _ => trivial)
          | false => exact flatC
        | map o kt vt =>
          cases o with
          | true =>
            obtain ⟨v0, rfl⟩ : ∃ v0, cs = [v0] := by have := hr.len; simp [Ty.size] at this; exact List.length_eq_one_iff.1 this
            have e : β k = v0 := hβ0
            have hR : RootR h L I (β k) (.map false kt vt a none) (F k) := by
              rw [e, hF0]
              obtain ⟨b, ents, clock, X', e1, h2, hB, h3, hx⟩ := hr
              simp only [Bool.and_true, if_true, Bool.not_false] at hx
              exact ⟨b, ents, clock, X', by simpa using e1, h2, hB, RM.toZ h3, hx⟩
            exact ih.consR (R := .map false kt vt a none) (sv := .mp k) ⟨false, kt, vt, a, none, look_cons_same, e.symm⟩ (fun r hr => by simp only [SV.uses, SV.uses0] at hr; rw [Nat.eq_of_beq_eq_true hr]; exact Nat.le_refl _) hR (fun _ => trivial)
          | false => exact flatC
        | _ => exact flatC
end
section
variable {C : Ctx} {I : Set'} {β : Nat → Value} {F : Nat → List Nat} {w : World} {tm : Array Value}
theorem joinAll_ok : ∀ {l : List Nat} {F : Nat → List Nat} {σ σ' : St}, Inv C I β F σ w tm → joinAll l σ = some σ' → ∃ F', Inv C I β F' σ' w tm ∧ Lss I σ I σ' ∧ ∀ k R, look σ'.r k = some R → ∀ b ∈ F' k, ∃ j R0, look σ.r j = some R0 ∧ b ∈ F j
  | [], F, σ, σ', hi, he => by
    simp only [joinAll, Option.some.injEq] at he
    subst he
    exact ⟨F, hi, .refl, fun k R hl b hb => ⟨k, R, hl, hb⟩⟩
  | n :: l, F, σ, σ', hi, he => by
    simp only [joinAll] at he
    cases hj : joinR σ n with
    | none => simp [hj] at he
    | some σ1 =>
      simp only [hj] at he
      obtain ⟨F1, h1, h2⟩ := joinK_ok hi hj
      obtain ⟨F2, h3, h4, h5⟩ := joinAll_ok h1 he
      refine ⟨F2, h3, (h2.less (I := I)).lss.trans h4, fun k R hl b hb => ?_⟩
      obtain ⟨j, R0, g1, g2⟩ := h5 k R hl b hb
      by_cases e : j = n
      · subst e
        obtain ⟨i, i1, i2, _⟩ := h2.from' b g2
        cases hl : look σ.r i with
        | none => exact (i1 hl).elim
        | some R => exact ⟨i, R, hl, i2⟩
      · rw [h2.same j e] at g2
        obtain ⟨R1, g3, _⟩ := (h2.less (I := I)).back g1
        exact ⟨j, R1, g3, g2⟩
theorem outSlots_ge : ∀ {ps : List (Bool × Ty)} {n k : Nat}, k ∈ outSlots ps n → n ≤ k
  | [], n, k, h => by simp [outSlots] at h
  | (len, τ) :: ps, n, k, h => by
    simp only [outSlots] at h
    split at h
    · rcases List.mem_cons.1 h with rfl | h
      · exact Nat.le_refl _
      · have := outSlots_ge h; omega
    · have := outSlots_ge h; omega
theorem outSlots_nodup : ∀ (ps : List (Bool × Ty)) (n : Nat), (outSlots ps n).Nodup
  | [], n => by simp [outSlots]
  | (len, τ) :: ps, n => by
    have ih := outSlots_nodup ps (n + 1)
    simp only [outSlots]
    split
    · exact List.nodup_cons.2 ⟨fun h => by have := outSlots_ge h; omega, ih⟩
    · exact ih
theorem someO_head {ot : Option Ty} {l : List Ty} {tv : TV} {r : denL l} {o : denL (consO ot l)} (h : someO ot l tv r = some o) : (ot = none ∧ headO ot l o = (none, r)) ∨ ∃ t y, ot = some t ∧ coe t tv.t tv.a = some y ∧ headO ot l o = (some ⟨t, y⟩, r) := by
  cases ot with
  | none =>
    obtain rfl : r = o := Option.some.inj h
    exact .inl ⟨rfl, rfl⟩
  | some t =>
    obtain ⟨u, a⟩ := tv
    simp only [someO] at h
    cases hc : coe t u a with
    | none => simp [hc] at h
    | some y =>
      rw [hc] at h
      obtain rfl : (y, r) = o := Option.some.inj h
      exact .inr ⟨t, y, rfl, hc, rfl⟩
theorem outsOf_ok {σ : St} (hi : Inv C I β F σ w tm) : ∀ (ps : List (Bool × Ty)) {n : Nat} {o : denL (outTys ps)} {vs : List Value}, outsOf ps n σ = some o → vs.length = ps.length →
    (∀ j, n + j ∈ outSlots ps n → tm.getD (n + j) undef = vs.getD j undef) → OutsR (hpOf w) C.L I ps vs o ((outSlots ps n).map F) ∧ ∀ k ∈ outSlots ps n, ∃ R, look σ.r k = some R
  | [], n, o, vs, he, hl, ht => ⟨rfl, by simp [outSlots]⟩
  | (len, τ) :: ps, n, o, [], he, hl, ht => by simp at hl
  | (len, τ) :: ps, n, o, v :: vs, he, hl, ht => by
    have hl' : vs.length = ps.length := by simpa using hl
    have step : ∀ {o' : denL (outTys ps)}, outsOf ps (n + 1) σ = some o' → (∀ k, k ∈ outSlots ps (n + 1) → k ∈ outSlots ((len, τ) :: ps) n) → OutsR (hpOf w) C.L I ps vs o' ((outSlots ps (n + 1)).map F) ∧ ∀ k ∈ outSlots ps (n + 1), ∃ R, look σ.r k = some R := by
      intro o' h1 h2
      refine outsOf_ok hi ps h1 hl' fun j hj => ?_
      have := ht (j + 1) (by rw [show n + (j + 1) = n + 1 + j by omega]; exact h2 _ hj)
      rw [show n + 1 + j = n + (j + 1) by omega, this]; rfl
    cases hio : ioTy τ with
    | none =>
      have hos : outSlots ((len, τ) :: ps) n = outSlots ps (n + 1) := by simp only [outSlots, hio]
      have he' : ∃ r, outsOf ps (n + 1) σ = some r ∧ someO (ioTy τ) (outTys ps) ⟨.unit, ()⟩ r = some o := by
        unfold outsOf at he
        split at he
        · split at he
          · rename_i r hr; exact ⟨r, hr, he⟩
          · cases he
        · rename_i h; rw [hio] at h; cases h
      obtain ⟨r, h1, h2⟩ := he'
      obtain ⟨g1, g2⟩ := step h1 (fun k hk => by rw [hos]; exact hk)
      rw [hos]
      refine ⟨?_, g2⟩
      simp only [OutsR]
      rcases someO_head h2 with ⟨_, e⟩ | ⟨t, y, e, _⟩
      · rw [e]; exact g1
      · rw [hio] at e; cases e
    | some t =>
      have hos : outSlots ((len, τ) :: ps) n = n :: outSlots ps (n + 1) := by simp only [outSlots, hio]
      have he' : ∃ l u a0 r, boxOf (find σ.t n) = some n ∧ boxFits τ (find σ.t n) = true ∧ look σ.r n = some (.box l u a0) ∧ (!l || len) = true ∧ outsOf ps (n + 1) σ = some r ∧ someO (ioTy τ) (outTys ps) ⟨u, a0⟩ r = some o := by
        unfold outsOf at he
        split at he
        · rename_i h; rw [hio] at h; cases h
        · split at he
          · rename_i k hk
            split at he
            · rename_i l u a0 hb hlk
              cases hlen : (!l || len) with
              | false => rw [hlen] at he; simp at he
              | true =>
                cases hr : outsOf ps (n + 1) σ with
                | none => rw [hlen, hr] at he; simp at he
                | some r =>
                  rw [hlen, hr] at he
                  simp only [Bool.and_eq_true] at hb
                  obtain rfl := Nat.eq_of_beq_eq_true hb.1
                  exact ⟨l, u, a0, r, hk, hb.2, hlk, hlen, rfl, he⟩
            · cases he
          · cases he
      obtain ⟨l, u, a0, r, h1, h2, h3, h4, h5, h6⟩ := he'
      obtain ⟨g1, g2⟩ := step h5 (fun k hk => by rw [hos]; simp [hk])
      rw [hos]
      refine ⟨?_, fun k hk => ?_⟩
      · simp only [OutsR]
        rcases someO_head h6 with ⟨e, _⟩ | ⟨t', y, e, hc, e'⟩
        · rw [hio] at e; cases e
        · rw [e']
          have htm := ht 0 (by rw [hos]; simp)
          simp only [Nat.add_zero, List.getD_cons_zero] at htm
          have hs := hi.slots n
          rw [htm] at hs
          refine ⟨F n, (outSlots ps (n + 1)).map F, β n, by simp, ?_, ?_, g1⟩
          · rw [hio] at e
            obtain rfl := Option.some.inj e
            unfold boxFits at h2
            split at h2
            · rename_i r0 hf
              rw [hf] at h1 hs
              simp only [boxOf, Option.some.injEq] at h1
              subst h1
              have := box_off (h := hpOf w) (L := C.L) (I := I) (β := β) hs
              rw [hi.ptr0 r0 l u a0 h3] at this
              exact this
            · rename_i l0 k0 x0 hf
              rw [hf] at h1 hs
              simp only [boxOf, Option.some.injEq] at h1
              subst h1
              obtain ⟨u0, e1, _, e2⟩ := hole_val (h := hpOf w) (L := C.L) (I := I) (β := β) hs
              rw [← e2 (by rw [h3]; simp)]
              exact e1
            · cases h2
          · have hR : Rep (hpOf w) (Sx C.L I l) false (.ref true u) a0 [β n] (F n) := hi.roots n _ h3
            have imp : l = true → len = true := by intro e; subst e; simpa using h4
            exact Rep.wide (Sx.up (fun _ h => h) (fun _ h => h) imp) (coe_rep (τ := .ref true t') (t := .ref true u) (y := (y : den t')) (by simp only [coe, boolEq]; exact hc) hR).1
      · rcases List.mem_cons.1 hk with rfl | hk
        · exact ⟨_, h3⟩
        · exact g2 k hk
end
end Go.Proofs.YthlpjdjipchdkaaDoor.E

namespace Go.Proofs.YthlpjdjipchdkaaDoor.E
open Go
set_option linter.unusedSimpArgs false
set_option linter.unusedVariables false
theorem results_run {P : Program} {fd : Func} {w : World} {tm : Array Value} {vals : List Value} (h1 : (fd.results.toList.mapM (resF tm)).run P w = .ok vals w) : (results fd tm).run P w = .ok (tupleV vals) w := by
  have hf : results fd tm = (do let vs ← fd.results.mapM (resF tm); pure (if h : vs.size = 1 then vs[0] else .tuple vs)) := rfl
  rw [hf, Array.mapM_eq_mapM_toList]
  simp only [Sem.run_bind, bind_pure_comp, Sem.run_map] at *
  refine (congrArg (fun r : Result (List Value) => (r.andThen fun a w' => Result.ok a.toArray w').andThen fun (a : Array Value) w' => Result.ok (if h : a.size = 1 then a[0] else Value.tuple a) w') h1).trans ?_
  simp only [Result.andThen_ok]
  match vals with
  | [] => rfl
  | [t] => rfl
  | t :: u :: l => rfl
theorem tm_getD (vs : List Value) (m j : Nat) : (vs.toArray ++ Array.replicate m undef).getD j undef = vs.getD j undef := by
  rw [Array.getD_eq_getD_getElem?, Array.getElem?_append]
  by_cases h : j < vs.length
  · simp [h]
  · have h' : vs.length ≤ j := by omega
    have h2 : ¬ j < vs.toArray.size := by simpa using h'
    rw [if_neg h2, Array.getElem?_replicate]
    split <;> simp [List.getD, h']
theorem flat_getD_nodup : ∀ {Xs : List (List Nat)}, Xs.flatten.Nodup → ∀ r, (Xs.getD r []).Nodup
  | [], _, r => by simp
  | X :: Xs, h, 0 => by simp only [List.flatten_cons, List.nodup_append] at h; exact h.1
  | X :: Xs, h, r + 1 => by simp only [List.flatten_cons, List.nodup_append] at h; rw [List.getD_cons_succ]; exact flat_getD_nodup h.2.1 r
theorem flat_getD_mem {b : Nat} : ∀ {Xs : List (List Nat)} {r : Nat}, b ∈ Xs.getD r [] → b ∈ Xs.flatten
  | [], r, h => by simp at h
  | X :: Xs, 0, h => by simp at h; simp [h]
  | X :: Xs, r + 1, h => by rw [List.getD_cons_succ] at h; simp only [List.flatten_cons, List.mem_append]; exact .inr (flat_getD_mem h)
theorem flat_getD_disj {b : Nat} : ∀ {Xs : List (List Nat)} {r r' : Nat}, Xs.flatten.Nodup → r ≠ r' → b ∈ Xs.getD r [] → b ∉ Xs.getD r' []
  | [], r, r', _, _, h => by simp at h
  | X :: Xs, 0, 0, _, hne, _ => absurd rfl hne
  | X :: Xs, 0, r' + 1, hn, _, h => by
    simp only [List.flatten_cons, List.nodup_append] at hn
    intro h'
    rw [List.getD_cons_succ] at h'
    exact hn.2.2 b (by simpa using h) b (flat_getD_mem h') rfl
  | X :: Xs, r + 1, 0, hn, _, h => by
    simp only [List.flatten_cons, List.nodup_append] at hn
    intro h'
    rw [List.getD_cons_succ] at h
    exact hn.2.2 b (by simpa using h') b (flat_getD_mem h) rfl
  | X :: Xs, r + 1, r' + 1, hn, hne, h => by
    simp only [List.flatten_cons, List.nodup_append] at hn
    rw [List.getD_cons_succ] at h ⊢
    exact flat_getD_disj hn.2.1 (by omega) h
theorem back_ok {C : Ctx} {ps : List (Bool × Ty)} {rs : List Ty} {rv : List ResultVar} {q : denL rs} {o : denL (outTys ps)} {σ : St} {w : World} {a a0 : Act} {c : Code} {vs : List Value} (hR : RetS C rs rv q σ w a) (ho : outsJ ps σ = some o) (hk : Keep (dsts c) a0 a)
    (hap : apart (outSlots ps 0) (dsts c) = true) (h0 : ∀ j, a0.tmps.getD j undef = vs.getD j undef) (hl : vs.length = ps.length) :
    a.defers = [] ∧ ∃ vals, (rv.mapM (resF a.tmps)).run C.P w = .ok vals w ∧ ∃ I' Ys Zs, Back C ps rs vs q o (tupleV vals) w I' vals Ys Zs := by
  obtain ⟨hd, vals, hrv, I, β, F0, Ys, hi0, hrs, hT⟩ := hR
  obtain ⟨d1, d2⟩ := apart_iff hap
  unfold outsJ at ho
  cases hj : joinAll (outSlots ps 0) σ with
  | none => simp [hj] at ho
  | some σ' =>
    simp only [hj] at ho
    obtain ⟨F, hi, _, hfrom⟩ := joinAll_ok hi0 hj
    obtain ⟨g1, g2⟩ := outsOf_ok hi ps ho hl (fun j hj => by
      rw [Nat.zero_add] at hj ⊢
      have : natMem j (dsts c) = false := by
        cases hq : natMem j (dsts c) with
        | false => rfl
        | true => exact (d2 j hj (natMem_iff.1 hq)).elim
      rw [hk j this, h0 j])
    have hZ : ∀ b, b ∈ ((outSlots ps 0).map F).flatten → ∃ k ∈ outSlots ps 0, b ∈ F k := by
      intro b hb
      obtain ⟨W, hW, hw⟩ := List.mem_flatten.1 hb
      obtain ⟨k, hk', rfl⟩ := List.mem_map.1 hW
      exact ⟨k, hk', hw⟩
    refine ⟨hd, vals, hrv, I, Ys, _, ⟨rfl, hrs, g1, ?_, ?_, hi.shared, hi.sub, hi.frame, hi.grow, hi.rest⟩⟩
    · rw [List.nodup_append]
      refine ⟨hT.nodup, hi.flat_nodup (outSlots_nodup ps 0) (fun r hr => by obtain ⟨R, hR⟩ := g2 r hr; rw [hR]; simp), ?_⟩
      rintro b hb b' hb' rfl
      obtain ⟨k, hk', hbk⟩ := hZ b hb'
      obtain ⟨R, hR⟩ := g2 k hk'
      obtain ⟨j, R0, j1, j2⟩ := hfrom k R hR b hbk
      exact hT.apart j R0 j1 b j2 hb
    · intro b hb
      rcases List.mem_append.1 hb with hb | hb
      · exact hT.own b hb
      · obtain ⟨k, hk', hbk⟩ := hZ b hb
        obtain ⟨R, hR⟩ := g2 k hk'
        exact hi.own k R hR b hbk
theorem fnB_ok {P : Program} {E' : Env} {fn : E'.Fn} {k : Nat} (hmx : P.follows .mixedOrders = true) (hfn : FnOk P E' fn) (hin : InlOk P E' (inl5 E' fn k)) {f : FuncId} {fd : Func} {c : Code} {a : denL (E'.sig f).pt} {q : denL (E'.sig f).rs} {o : denL (E'.sig f).os} (hf : P.funcs[f]? = some fd) (hb : fd.body = some c)
    (he : fnB E' fn k f c fd.ntmps fd.results.toList a = some (q, o)) : Hold P E'.T E'.G f (E'.sig f).ps (E'.sig f).rs a q o := by
  intro C hP hT hG htk w vs Xs hh hn hzr hargs hX hXn hXb
  unfold fnB at he
  cases hc : (Nat.ble (E'.sig f).ps.length fd.ntmps && apart (outSlots (E'.sig f).ps 0) (dsts c) && sigSolid (E'.sig f).ps) with
  | false => simp [hc] at he
  | true =>
    simp only [hc] at he
    simp only [Bool.and_eq_true] at hc
    obtain ⟨⟨hc1, hc2⟩, hc3⟩ := hc
    obtain ⟨hl, hlX⟩ := argsR_len _ hargs
    have hle : vs.length ≤ fd.ntmps := by rw [hl]; exact Nat.le_of_ble_eq_true hc1
    have hst := initV_ok (E'.sig f).ps (k := 0) (β := fun i => argβ ((E'.sig f).ps.getD i (false, .unit)).2 (vs.getD i undef)) (F := fun i => Xs.getD i []) hc3 hargs (fun j _ => by rw [Nat.zero_add]) (fun j => by rw [Nat.zero_add])
    have hi : Inv C C.I (fun i => argβ ((E'.sig f).ps.getD i (false, .unit)).2 (vs.getD i undef)) (fun i => Xs.getD i []) ⟨(initV (E'.sig f).ps a 0).1, [], (initV (E'.sig f).ps a 0).2, fd.ntmps, (f + 1) * 1000000, []⟩ w (vs.toArray ++ Array.replicate (fd.ntmps - vs.toArray.size) undef) := by
      have hXm : ∀ r b, b ∈ Xs.getD r [] → C.X b := fun r b hb => (hX b).2 (flat_getD_mem hb)
      constructor
      case size => simp; omega
      case slots =>
        intro i
        rw [tm_getD]
        rcases find_mem (l := (initV (E'.sig f).ps a 0).1) (i := i) with h | h
        · simp only; rw [h]; exact trivial
        · have := (hst.slots i _ h).2.1
          rw [hh]; simpa using this
      case conds => intro k e u v h; simp at h
      case undefs => intro k e u v h; simp at h
      case roots => intro r R h; rw [hh]; exact (hst.roots r R h).2.1
      case holes => intro r R h; rw [hh]; exact (hst.roots r R h).2.2 _
      case nodup => intro r R _; exact flat_getD_nodup hXn r
      case disj => intro r r' R R' hne _ _ b hb; exact flat_getD_disj hXn hne hb
      case own => intro r R _ b hb; exact ⟨fun h => (C.Iok b h).2 (hXm r b hb), fun h => (C.Lok b h).2 (hXm r b hb), by rw [hn]; exact hXb b (flat_getD_mem hb), .inl (hXm r b hb)⟩
      case shared => intro b hb; exact ⟨by rw [hn]; exact (C.Iok b hb).1, .inl hb⟩
      case sub => exact fun _ h => h
      case frame => intro b _ _; rw [hh]
      case grow => rw [hn]; exact Nat.le_refl _
      case rest => exact hzr
      case frames => rw [htk]; exact trivial
    refine calls_of_wp hf hb ?_
    refine ev_ok hmx hfn hin f fd.results.toList k c he hP hT hG (a := { tmps := vs.toArray ++ Array.replicate (fd.ntmps - vs.toArray.size) undef, defers := [] }) ⟨rfl, _, _, _, hi⟩ ?_
    have fin : ∀ {σ' : St} {a' : Act} {w' : World} {q' : denL (E'.sig f).rs} {o' : denL (E'.sig f).os}, RetS C (E'.sig f).rs fd.results.toList q' σ' w' a' → outsJ (E'.sig f).ps σ' = some o' → (q', o') = (q, o) → Keep (dsts c) { tmps := vs.toArray ++ Array.replicate (fd.ntmps - vs.toArray.size) undef, defers := [] } a' →
        a'.defers = [] ∧ ∃ v, (results fd a'.tmps).run P w' = .ok v w' ∧ ∃ v' I' vals Ys Zs, Ending.returned v = .returned v' ∧ Back C (E'.sig f).ps (E'.sig f).rs vs q o v' w' I' vals Ys Zs := by
      intro σ' a' w' q' o' h1 h2 h3 h4
      cases h3
      obtain ⟨g1, vals, g2, I', Ys, Zs, g3⟩ := back_ok h1 h2 h4 hc2 (fun j => tm_getD vs _ j) hl
      exact ⟨g1, _, results_run (hP ▸ g2), _, I', _, Ys, Zs, rfl, g3⟩
    intro e σ' a' w' h1 h2 h3
    cases e with
    | n =>
      simp only at h1
      rw [← hT] at h1
      cases ht : takesV C.T (E'.sig f).rs fd.results.toList σ' with
      | none => simp [ht] at h1
      | some p =>
        obtain ⟨q', σ2⟩ := p
        simp only [ht] at h1
        cases ho : outsJ (E'.sig f).ps σ2 with
        | none => simp [ho] at h1
        | some o' =>
          simp only [ho, Option.some.injEq] at h1
          exact fin (ret_ok h2 ht) ho h1 h3
    | e j => simp at h1
    | r q' =>
      simp only at h1
      cases ho : outsJ (E'.sig f).ps σ' with
      | none => simp [ho] at h1
      | some o' =>
        simp only [ho, Option.some.injEq] at h1
        exact fin h2 ho h1 h3
theorem slotsIn_find : ∀ {svs : List SV} {n i : Nat}, find (slotsIn svs n) i = .x ∨ ∃ j, i = n + j ∧ svs[j]? = some (find (slotsIn svs n) i)
  | [], n, i => .inl rfl
  | sv :: l, n, i => by
    simp only [slotsIn, find]
    cases hb : Nat.beq n i with
    | true =>
      obtain rfl := Nat.eq_of_beq_eq_true hb
      exact .inr ⟨0, by omega, rfl⟩
    | false =>
      rcases slotsIn_find (svs := l) (n := n + 1) (i := i) with h | ⟨j, h1, h2⟩
      · exact .inl h
      · exact .inr ⟨j + 1, by omega, by simpa using h2⟩
theorem All2.get {α β : Type} {R : α → β → Prop} {d : β} : ∀ {l : List α} {m : List β} {j : Nat} {a : α}, All2 R l m → l[j]? = some a → R a (m.getD j d)
  | _ :: _, [], _, _, h, _ => h.elim
  | a :: l, b :: m, 0, x, ⟨h, _⟩, hx => by simp at hx; subst hx; exact h
  | a :: l, b :: m, j + 1, x, ⟨_, h⟩, hx => by
    rw [List.getD_cons_succ]
    exact All2.get h (by simpa using hx)
  | [], _, _, _, _, hx => by simp at hx
theorem All2.length {α β : Type} {R : α → β → Prop} : ∀ {l : List α} {m : List β}, All2 R l m → l.length = m.length
  | [], [], _ => rfl
  | _ :: _, [], h => h.elim
  | [], _ :: _, h => h.elim
  | _ :: _, _ :: _, ⟨_, h⟩ => by simp [All2.length h]
theorem inl0_ok {P : Program} {E' : Env} {fn : E'.Fn} {k : Nat} : InlOk P E' (inl0 E' fn k) := fun f svs d R σ K res hf he => by simp [inl0] at he
theorem inlS_ok {P : Program} {E' : Env} {fn : E'.Fn} {k : Nat} {inl : Inl} (hmx : P.follows .mixedOrders = true) (hfn : FnOk P E' fn) (hF : ∀ f fd, E'.F f = some fd → P.funcs[f]? = some fd)
    (hkn : ∀ f, E'.inl f = true → ∃ F, P.funcs[f]? = some F ∧ F.body.isSome = true ∧ F.name ≠ "runtime.NumGoroutine") (ih : InlOk P E' inl) : InlOk P E' (inlS E' fn k inl) :=
  fun f svs d R σ K res hf he => by
    refine ⟨hkn f hf, ?_⟩
    intro C hP hT hG I β F w tm vs hi hvs
    simp only [inlS] at he
    cases h1 : E'.F f with
    | none => simp [h1] at he
    | some fd =>
      simp only [h1] at he
      cases h2 : fd.body with
      | none => simp [h2] at he
      | some c =>
        simp only [h2] at he
        cases hble : Nat.ble svs.length fd.ntmps with
        | false => simp [hble] at he
        | true =>
          simp only [hble] at he
          have hlen : svs.length = vs.length := hvs.length
          have hle : vs.length ≤ fd.ntmps := by rw [← hlen]; exact Nat.le_of_ble_eq_true hble
          let C' : Ctx := { P := C.P, T := C.T, h := C.h, n := C.n, L := C.L, I := C.I, X := C.X, z := C.z, G := C.G, tk := tm :: C.tk, Iok := C.Iok, Lok := C.Lok, ok := C.ok, eqs := C.eqs, zag := C.zag, gok := C.gok }
          have hi' : Inv C' I β F { t := slotsIn svs 0, c := [], r := σ.r, n := fd.ntmps, b := inBase σ.b d, k := σ.t :: σ.k } w (vs.toArray ++ Array.replicate (fd.ntmps - vs.toArray.size) undef) := by
            constructor
            case size => simp; omega
            case slots =>
              intro i
              rw [tm_getD]
              simp only
              rcases slotsIn_find (svs := svs) (n := 0) (i := i) with h | ⟨j, h3, h4⟩
              · rw [h]; exact trivial
              · rw [Nat.zero_add] at h3
                subst h3
                exact All2.get hvs h4
            case conds => intro k e u v h; simp at h
            case undefs => intro k e u v h; simp at h
            case roots => exact hi.roots
            case holes => exact hi.holes
            case nodup => exact hi.nodup
            case disj => exact hi.disj
            case own => exact hi.own
            case shared => exact hi.shared
            case sub => exact hi.sub
            case frame => exact hi.frame
            case grow => exact hi.grow
            case rest => exact hi.rest
            case frames => exact ⟨hi.slots, hi.frames⟩
          refine calls_of_wp (hF f fd h1) h2 ?_
          refine ev_ok hmx hfn ih f fd.results.toList k c he (C := C') hP hT hG (a := { tmps := vs.toArray ++ Array.replicate (fd.ntmps - vs.toArray.size) undef, defers := [] }) ⟨rfl, _, _, _, hi'⟩ ?_
          have fin : ∀ {σ' : St} {a' : Act} {w' : World} {q : denL (E'.sig f).rs}, RetS C' (E'.sig f).rs fd.results.toList q σ' w' a' → retsK (E'.sig f).rs q (σ.b + d) (leave σ σ') K = some res →
              a'.defers = [] ∧ ∃ v, (results fd a'.tmps).run P w' = .ok v w' ∧ ∃ v', Ending.returned v = .returned v' ∧ ∃ σ' svs' vals I' β' F', v' = tupleV vals ∧ K svs' σ' = some res ∧ Inv C I' β' F' σ' w' tm ∧ All2 (SVR0 (hpOf w') C.L I' β' σ'.r) svs' vals := by
            rintro σ' a' w' q ⟨hd, vals, hrv, I2, β2, F2, Ys, hi2, hrs, hT2⟩ hK
            have hfr := hi2.frames
            cases hk : σ'.k with
            | nil => rw [hk] at hfr; exact hfr.elim
            | cons t0 k0 =>
              rw [hk] at hfr
              have hlv : leave σ σ' = { t := t0, c := [], r := σ'.r, n := σ.n, b := σ.b, k := k0 } := by simp only [leave, hk]
              rw [hlv] at hK
              have hi3 : Inv C I2 β2 F2 { t := t0, c := [], r := σ'.r, n := σ.n, b := σ.b, k := k0 } w' tm := by
                constructor
                case size => exact hi.size
                case slots => exact hfr.1
                case conds => intro k e u v h; simp at h
                case undefs => intro k e u v h; simp at h
                case roots => exact hi2.roots
                case holes => exact hi2.holes
                case nodup => exact hi2.nodup
                case disj => exact hi2.disj
                case own => exact hi2.own
                case shared => exact hi2.shared
                case sub => exact hi2.sub
                case frame => exact hi2.frame
                case grow => exact hi2.grow
                case rest => exact hi2.rest
                case frames => exact hfr.2
              obtain ⟨σ'', svs', β3, F3, g1, g2, g3, _⟩ := retsK_ok (E'.sig f).rs hi3 hK hrs ⟨hT2.nodup, hT2.own, hT2.apart⟩
              exact ⟨hd, _, results_run (hP ▸ hrv), _, rfl, σ'', svs', vals, I2, β3, F3, rfl, g1, g2, g3⟩
          intro e σ' a' w' g1 g2 g3
          cases e with
          | n =>
            simp only at g1
            rw [← hT] at g1
            cases ht : takesV C.T (E'.sig f).rs fd.results.toList σ' with
            | none => simp [ht] at g1
            | some p =>
              obtain ⟨q', σ2⟩ := p
              simp only [ht] at g1
              exact fin (ret_ok (C := C') g2 ht) g1
          | e j => simp at g1
          | r q' => exact fin g2 g1
def HandOk (P : Program) (E' : Env) : Prop := ∀ f g, E'.hand f = some g → ∀ a q o, g a = some (q, o) → Hold P E'.T E'.G f (E'.sig f).ps (E'.sig f).rs a q o
theorem fnE_ok {P : Program} {E' : Env} (hmx : P.follows .mixedOrders = true) (hF : ∀ f fd, E'.F f = some fd → P.funcs[f]? = some fd)
    (hkn : ∀ f, E'.known f = true → ∃ F, P.funcs[f]? = some F ∧ F.body.isSome = true ∧ F.name ≠ "runtime.NumGoroutine")
    (hin : ∀ f, E'.inl f = true → ∃ F, P.funcs[f]? = some F ∧ F.body.isSome = true ∧ F.name ≠ "runtime.NumGoroutine") (hpr : PrimOk P E') (hha : HandOk P E') : ∀ k, FnOk P E' (fnE E' k)
  | 0 => ⟨hpr, fun f hf => ⟨hkn f hf, fun a q o he => by simp [fnE] at he⟩⟩
  | k + 1 => ⟨hpr, fun f hf => ⟨hkn f hf, fun a q o he => by
      simp only [fnE] at he
      cases hh : E'.hand f with
      | some g =>
        simp only [hh] at he
        exact hha f g hh a q o he
      | none =>
        simp only [hh, fnS] at he
        have ih := fnE_ok hmx hF hkn hin hpr hha k
        cases h1 : E'.F f with
        | none => simp [h1] at he
        | some fd =>
          simp only [h1] at he
          cases h2 : fd.body with
          | none => simp [h2] at he
          | some c =>
            simp only [h2] at he
            exact fnB_ok hmx ih (inlS_ok hmx ih hF hin (inlS_ok hmx ih hF hin (inlS_ok hmx ih hF hin (inlS_ok hmx ih hF hin (inlS_ok hmx ih hF hin inl0_ok))))) (hF f fd h1) h2 he⟩⟩
end Go.Proofs.YthlpjdjipchdkaaDoor.E

namespace Go.Proofs.YthlpjdjipchdkaaDoor.E
open Go Go.ChangeShapes Go.WideShapes Go.RowKit
set_option linter.unusedSimpArgs false
set_option linter.unusedVariables false
def TabOk (P : Program) (T : Tab) : Prop :=
  (∀ t i, T t = some i → P.underlying t = some i.d ∧ ∃ j z, P.info? t = some j ∧ j.size = i.size ∧ j.bytes = i.bytes ∧ j.zero = some z ∧ z.cells.toList = i.zero) ∧
  (∀ t i, T t = some i → i.eq = true → P.stoodInHeld t = false ∧ P.eqGuardType P.depth t = false) ∧
  ∀ t i, T t = some i → ∀ j z, P.info? t = some j → j.zero = some z → wrapsB i.d z = true
mutual
def fitsB (T : Tab) : Nat → TypeId → Ty → Bool
  | 0, _, _ => false
  | n + 1, t, τ => match und T t, τ with
    | some (.int k), .int j => kindEq k j
    | some .bool, .bool => true
    | some .string, .str => true
    | some (.slice e), .sl false u => szB T e u.size && !(Nat.beq u.size 0) && fitsB T n e u
    | some (.struct fs), τ => szB T t τ.size && fitsFB T n fs.toList τ 0
    | _, _ => false
def fitsFB (T : Tab) : Nat → List Field → Ty → Nat → Bool
  | 0, _, _, _ => false
  | _ + 1, [], .unit, _ => true
  | n + 1, f :: fs, .pair a b, o => Nat.beq f.offset o && szB T f.type a.size && fitsB T n f.type a && fitsFB T n fs b (o + a.size)
  | _, _, _, _ => false
end
theorem bytes_of (P : Program) (h : ((List.range P.types.size).all fun t => match P.underlying t with | some (.slice e) => decide (0 < P.bytesOf e) | _ => true) = true) : ∀ t e, t < P.types.size → P.underlying t = some (.slice e) → 0 < P.bytesOf e := by
  intro t e hl ht
  have := List.all_eq_true.1 h t (List.mem_range.2 hl)
  rw [ht] at this
  simpa using this
def inTyS : (τ : Ty) → den τ → Prop
  | .int k, (n : Int) => k.min ≤ n ∧ n ≤ k.max
  | .str, s => s.length ≤ reachBytes
  | .pair a b, x => inTyS a x.1 ∧ inTyS b x.2
  | .sl _ t, xs => xs.length ≤ reachBytes ∧ ∀ x ∈ xs, inTyS t x
  | _, _ => True
section
variable {P : Program} {T : Tab} {H : Type} {enc : TypeId × Value → H} {w : World}
theorem und_P (hT : TabOk P T) {t : TypeId} {d : TypeDesc} (h : und T t = some d) : P.underlying t = some d := by
  unfold und at h
  split at h
  · rename_i i hi
    rw [← h]; exact (hT.1 t i hi).1
  · cases h
theorem sz_P (hT : TabOk P T) {t : TypeId} {n : Nat} (h : szB T t n = true) : P.cellsOf t = n := by
  unfold szB at h
  split at h
  · rename_i i hi
    obtain ⟨_, j, z, h1, h2, _⟩ := hT.1 t i hi
    unfold Program.cellsOf
    rw [h1]
    simp only [Option.map_some, Option.getD_some]
    rw [h2]
    exact Nat.eq_of_beq_eq_true h
  · cases h
theorem mapM_getElem {α β : Type} {f : α → Option β} : ∀ {l : List α} {r : List β}, l.mapM f = some r → l.length = r.length ∧ ∀ (i : Nat) (x : α), l[i]? = some x → f x = r[i]?
  | [], r, h => by simp at h; subst h; simp
  | a :: l, r, h => by
    rw [List.mapM_cons] at h
    cases hx : f a with
    | none => simp [hx] at h
    | some y =>
      cases hl : l.mapM f with
      | none => simp [hx, hl] at h
      | some ys =>
        simp [hx, hl] at h
        subst h
        obtain ⟨h1, h2⟩ := mapM_getElem hl
        refine ⟨by simp [h1], fun i x hi => ?_⟩
        cases i with
        | zero => simp at hi; subst hi; simpa using hx
        | succ i => simp at hi; simpa using h2 i x hi
theorem cells_block {base : Nat} {a : Addr} {n : Nat} {cs : List Value} (h : w.cells? base a n = some cs) (hn : 0 < n) :
    ∃ arr E' fr, a.spot = none ∧ hpOf w a.block = some (.cells arr E' fr) ∧ a.off + n ≤ arr.size ∧ cs = (arr.toList.drop a.off).take n := by
  unfold World.cells? at h
  split at h
  · obtain ⟨h1, h2⟩ := mapM_getElem h
    simp at h1
    have key : ∀ i, i < n → w.cell? (a.add i) = cs[i]? := fun i hi => h2 i i (by simp [hi])
    obtain ⟨b, o, s⟩ := a
    have h0 := key 0 hn
    rw [List.getElem?_eq_getElem (by omega)] at h0
    have hs : s = none := by
      have := World.cell?_spot h0
      cases s with
      | none => rfl
      | some k => simp [Addr.add] at this
    subst hs
    simp only [addr_add] at key
    have hb : ∃ arr E' fr, w.heap[b]? = some (.cells arr E' fr) := by
      rw [addr_add] at h0
      unfold World.cell? at h0
      simp only at h0
      split at h0
      · rename_i c E' fr hc; exact ⟨c, E', fr, hc⟩
      · cases h0
    obtain ⟨arr, E', fr, hb⟩ := hb
    have hcell : ∀ i, w.cell? ⟨b, o + i, none⟩ = arr[o + i]? := fun i => by unfold World.cell?; simp [hb]
    have hsz : o + n ≤ arr.size := by
      have h3 := key (n - 1) (by omega)
      rw [hcell, List.getElem?_eq_getElem (by omega)] at h3
      have := (Array.getElem?_eq_some_iff.1 h3).1
      omega
    refine ⟨arr, E', fr, rfl, hb, hsz, ?_⟩
    apply List.ext_getElem?
    intro i
    rw [List.getElem?_take]
    by_cases hi : i < n
    · rw [if_pos hi, ← key i hi, hcell, List.getElem?_drop]; simp
    · rw [if_neg hi, List.getElem?_eq_none (by omega)]
  · cases h
theorem RL.cat {α : Type} {R : α → List Value → List Nat → Prop} {s : Nat} {cs : List Value} : ∀ (n k : Nat) (f : Nat → α), (∀ i, i < n → R (f i) ((cs.drop ((k + i) * s)).take s) []) → (k + n) * s ≤ cs.length →
    RL R ((List.range n).map f) ((cs.drop (k * s)).take (n * s)) []
  | 0, k, f, _, _ => by simp [RL]
  | n + 1, k, f, h, hl => by
    rw [List.range_succ_eq_map, List.map_cons, List.map_map]
    refine ⟨(cs.drop (k * s)).take s, (cs.drop ((k + 1) * s)).take (n * s), [], [], ?_, rfl, by have := h 0 (by omega); simpa using this, ?_⟩
    · have e : (n + 1) * s = s + n * s := by rw [Nat.add_mul, Nat.one_mul, Nat.add_comm]
      rw [e, List.take_add, List.drop_drop]
      congr 3
      rw [Nat.add_mul, Nat.one_mul]
    · have := RL.cat (R := R) (s := s) (cs := cs) n (k + 1) (f ∘ Nat.succ) (fun i hi => by have := h (i + 1) (by omega); simpa [Nat.add_assoc, Nat.add_comm 1 i] using this) (by simpa [Nat.add_assoc, Nat.add_comm 1 n] using hl)
      exact this
theorem weightsAll_mem {e : TypeId} {d : DataW H} : ∀ {ds : List (DataW H)} {n : Nat}, d ∈ ds → n ∈ d.weights P e → n ∈ DataW.weightsAll P e ds
  | d0 :: ds, n, h, hn => by
    simp only [DataW.weightsAll, List.mem_append]
    rcases List.mem_cons.1 h with rfl | h
    · exact .inl hn
    · exact .inr (weightsAll_mem h hn)
theorem trod_repS (hT : TabOk P T) (kids : Kids P (· < P.types.size)) (hby : ∀ t e, t < P.types.size → P.underlying t = some (.slice e) → 0 < P.bytesOf e) : ∀ (n : Nat),
    (∀ {t : TypeId} {τ : Ty}, fitsB T n t τ = true → ∀ {fuel : Nat} {cs : List Value} {x : DataW H × List MemPlace}, DataW.trod enc P w 0 (fun _ => true) true fuel t cs = some x → (∀ n ∈ x.1.weights P t, n ≤ reachBytes) → t < P.types.size →
      ∃ a : den τ, Rep (hpOf w) (fun b => b < w.heap.size) true τ a cs [] ∧ inTyS τ a) ∧
    (∀ {fs : List Field} {τ : Ty} {o : Nat}, fitsFB T n fs τ o = true → ∀ {cs : List Value}, (∀ f ∈ fs, f.type < P.types.size ∧ ∃ fuel, ∃ x : DataW H × List MemPlace, DataW.trod enc P w 0 (fun _ => true) true fuel f.type ((cs.drop f.offset).take (P.cellsOf f.type)) = some x ∧ ∀ n ∈ x.1.weights P f.type, n ≤ reachBytes) →
      o + τ.size = cs.length → ∃ a : den τ, Rep (hpOf w) (fun b => b < w.heap.size) true τ a (cs.drop o) [] ∧ inTyS τ a)
  | 0 => ⟨fun h => by simp [fitsB] at h, fun h => by simp [fitsFB] at h⟩
  | n + 1 => by
    obtain ⟨ih1, ih2⟩ := trod_repS hT kids hby n
    constructor
    · intro t τ h fuel cs x hx hwt hts
      unfold fitsB at h
      split at h
      · rename_i k j hu
        obtain rfl := kindEq_iff h
        obtain ⟨m, rfl, _, h3⟩ := DataW.trod_int (und_P hT hu) hx
        refine ⟨m, ⟨rfl, rfl⟩, ?_⟩
        simp only [Lit.wf, Bool.and_eq_true, decide_eq_true_eq] at h3
        exact h3
      · rename_i hu
        obtain ⟨b, rfl, _⟩ := DataW.trod_bool (und_P hT hu) hx
        exact ⟨b, ⟨rfl, rfl⟩, trivial⟩
      · rename_i hu
        obtain ⟨s, rfl, rfl, h3⟩ := DataW.trod_string (und_P hT hu) hx
        refine ⟨s.data.toList, ⟨rfl, rfl⟩, ?_⟩
        exact hwt _ (by simp [DataW.weights])
      · rename_i e u hu
        simp only [Bool.and_eq_true, Bool.not_eq_true'] at h
        obtain ⟨⟨h1, h2⟩, h3⟩ := h
        have hsz := sz_P hT h1
        have hpos : 0 < u.size := by
          rcases Nat.eq_zero_or_pos u.size with h0 | h0
          · rw [h0] at h2; simp at h2
          · exact h0
        rcases DataW.trod_slice (und_P hT hu) hx with ⟨rfl, _⟩ | ⟨a, len, cap, elems, rest, m, _, rfl, rfl, _, hlc, hcm, hel, hread, hspare, _⟩
        · exact ⟨[], ⟨none, 0, rfl, Nat.le_refl _, .inl ⟨rfl, rfl, rfl, rfl⟩⟩, by simp [inTyS]⟩
        · obtain ⟨hrl, hrest⟩ := hspare rfl
          have hbe : 0 < P.bytesOf e := hby t e hts (und_P hT hu)
          simp only [DataW.weights, und_P hT hu, List.mem_cons, List.mem_append, forall_eq_or_imp, List.length_map] at hwt
          have hlr : len ≤ reachBytes := by
            have h0 := hwt.1
            have := Nat.le_mul_of_pos_right (elems.length + rest.length) hbe
            omega
          by_cases hc0 : cap = 0
          · subst hc0
            obtain rfl : len = 0 := by omega
            exact ⟨[], ⟨some a, 0, rfl, Nat.le_refl _, .inl ⟨rfl, rfl, rfl, rfl⟩⟩, by simp [inTyS]⟩
          · have hall : ∀ i, i < cap → ∃ cs', w.cells? 0 (a.add (i * u.size)) u.size = some cs' ∧ ∃ y, DataW.trod enc P w 0 (fun _ => true) true m e cs' = some y ∧ ∀ n ∈ y.1.weights P e, n ≤ reachBytes := by
              intro i hi
              have hget : ∃ y, (w.cells? 0 (a.add (i * u.size)) u.size).bind (DataW.trod enc P w 0 (fun _ => true) true m e) = some y ∧ ∀ n ∈ y.1.weights P e, n ≤ reachBytes := by
                rw [← hsz]
                by_cases hl : i < len
                · rw [hread i hl]; exact ⟨elems[i], by rw [List.getElem?_eq_getElem], fun n hn => hwt.2 n (.inl (weightsAll_mem (List.mem_map.2 ⟨elems[i], List.getElem_mem _, rfl⟩) hn))⟩
                · have := hrest (i - len) (by omega)
                  rw [show len + (i - len) = i by omega] at this
                  rw [this]; exact ⟨rest[i - len], by rw [List.getElem?_eq_getElem], fun n hn => hwt.2 n (.inr (weightsAll_mem (List.mem_map.2 ⟨rest[i - len], List.getElem_mem _, rfl⟩) hn))⟩
              obtain ⟨y, hy, hyw⟩ := hget
              rw [Option.bind_eq_some_iff] at hy
              obtain ⟨cs', h5, h6⟩ := hy
              exact ⟨cs', h5, y, h6, hyw⟩
            obtain ⟨b, o, s⟩ := a
            obtain ⟨cs0, g0, _⟩ := hall 0 (by omega)
            obtain ⟨arr, E', fr, hs, hb, _, _⟩ := cells_block g0 hpos
            have hs0 : s = none := by
              cases s with
              | none => rfl
              | some k => simp [Addr.add] at hs
            subst hs0
            simp only [addr_add] at hall hb
            have hblk : ∀ i, i < cap → o + i * u.size + u.size ≤ arr.size ∧ ∃ x : den u, Rep (hpOf w) (fun b => b < w.heap.size) true u x ((arr.toList.drop (o + i * u.size)).take u.size) [] ∧ inTyS u x := by
              intro i hi
              obtain ⟨cs', h5, y, h6, hyw⟩ := hall i hi
              obtain ⟨arr', E2, fr', _, hb', hsz', rfl⟩ := cells_block h5 hpos
              simp only at hb' hsz'
              rw [hb] at hb'
              simp only [Option.some.injEq, Obj.cells.injEq] at hb'
              obtain ⟨rfl, _, _⟩ := hb'
              exact ⟨hsz', ih1 h3 h6 hyw (kids.slice hts (und_P hT hu))⟩
            have hbl : b < w.heap.size := by
              have : w.heap[b]? = some (.cells arr E' fr) := hb
              exact (Array.getElem?_eq_some_iff.1 this).1
            have hcap : o + cap * u.size ≤ arr.size := by
              have := (hblk (cap - 1) (by omega)).1
              have e : cap * u.size = (cap - 1) * u.size + u.size := by
                conv => lhs; rw [show cap = (cap - 1) + 1 by omega, Nat.add_mul, Nat.one_mul]
              omega
            have hch : ∀ i, ∃ x : den u, i < len → Rep (hpOf w) (fun b => b < w.heap.size) true u x ((arr.toList.drop (o + i * u.size)).take u.size) [] ∧ inTyS u x := by
              intro i
              by_cases hi : i < len
              · obtain ⟨x, hx⟩ := (hblk i (by omega)).2; exact ⟨x, fun _ => hx⟩
              · exact ⟨dflt u, fun h => (hi h).elim⟩
            have hch' : ∃ f : Nat → den u, ∀ i, i < len → Rep (hpOf w) (fun b => b < w.heap.size) true u (f i) ((arr.toList.drop (o + i * u.size)).take u.size) [] ∧ inTyS u (f i) :=
              ⟨fun i => Classical.choose (hch i), fun i => Classical.choose_spec (hch i)⟩
            obtain ⟨f, hf⟩ := hch'
            refine ⟨(List.range len).map f, ⟨some ⟨b, o, none⟩, cap, by simp, by simpa using hlc, .inr ⟨b, o, arr, E', fr, [], rfl, hb, hcap, ?_, ?_⟩⟩, ?_⟩
            · have hle : len * u.size ≤ cap * u.size := Nat.mul_le_mul_right _ hlc
              have := RL.cat (R := Rep (hpOf w) (fun b => b < w.heap.size) true u) (s := u.size) (cs := arr.toList.drop o) len 0 f (fun i hi => by
                rw [List.drop_drop, Nat.zero_add]; exact (hf i hi).1) (by simp; omega)
              simpa using this
            · simp [hbl]
            · refine ⟨by simp; omega, fun x hx => ?_⟩
              obtain ⟨i, hi, rfl⟩ := List.mem_map.1 hx
              exact (hf i (by simpa using hi)).2
      · rename_i τ' fs hu
        simp only [Bool.and_eq_true] at h
        obtain ⟨h1, h2⟩ := h
        obtain ⟨xs, m, _, rfl, hl, hlen, hf⟩ := DataW.trod_struct (und_P hT hu) hx
        obtain ⟨a, h3, h4⟩ := ih2 h2 (cs := cs) (fun f hfm => by
          obtain ⟨i, hi, rfl⟩ := List.getElem_of_mem hfm
          have hi' : i < fs.size := by simpa using hi
          have := hf i fs[i] (by simp [hi'])
          refine ⟨(kids.struct hts (und_P hT hu)).1 _ (List.getElem_mem _), m, xs[i], ?_⟩
          refine ⟨by rw [Array.getElem_toList, this, List.getElem?_eq_getElem], fun n hn => hwt n ?_⟩
          simp only [DataW.weights, und_P hT hu]
          exact DataW.weights_mem_each (j := i) (t := fs[i].type) (d := (xs[i]).1) (by simp [hi']) (by simp [hlen, hi']) n (by simpa using hn)) (by rw [hl, sz_P hT h1]; simp)
        exact ⟨a, by simpa using h3, h4⟩
      · cases h
    · intro fs τ o h cs hfs hlen
      unfold fitsFB at h
      split at h
      · rename_i h0; cases h0
      · refine ⟨(), ⟨?_, rfl⟩, trivial⟩
        apply List.drop_eq_nil_of_le
        simp [Ty.size] at hlen
        omega
      · rename_i o' m f fs a b hn
        obtain rfl : m = n := by omega
        simp only [Bool.and_eq_true] at h
        obtain ⟨⟨⟨h1, h2⟩, h3⟩, h4⟩ := h
        obtain rfl := Nat.eq_of_beq_eq_true h1
        simp only [Ty.size] at hlen
        obtain ⟨hfz, fuel, x, hx, hxw⟩ := hfs f (by simp)
        rw [sz_P hT h2] at hx
        obtain ⟨y, g1, g2⟩ := ih1 h3 hx hxw hfz
        obtain ⟨z, k1, k2⟩ := ih2 h4 (cs := cs) (fun f' hf' => hfs f' (by simp [hf'])) (by omega)
        refine ⟨(y, z), ⟨(cs.drop f.offset).take a.size, cs.drop (f.offset + a.size), [], [], ?_, rfl, g1, k1⟩, g2, k2⟩
        rw [← List.drop_drop, List.take_append_drop]
      · cases h
end
end Go.Proofs.YthlpjdjipchdkaaDoor.E

namespace Go.Proofs.YthlpjdjipchdkaaDoor.E
open Go Go.ChangeShapes Go.WideShapes Go.RowKit
set_option linter.unusedSimpArgs false
set_option linter.unusedVariables false
def fitsLB (T : Tab) : List TypeId → List (Bool × Ty) → Bool
  | [], [] => true
  | t :: ts, (_, τ) :: ps => fitsB T 40 t τ && τ.flat && fitsLB T ts ps
  | _, _ => false
def inTySL : (ps : List (Bool × Ty)) → denL (ps.map (·.2)) → Prop
  | [], _ => True
  | (_, τ) :: ps, (a, r) => inTyS τ a ∧ inTySL ps r
theorem ioTy_flat {τ : Ty} (h : τ.flat = true) : ioTy τ = none := by
  cases hi : ioTy τ with
  | none => rfl
  | some t =>
    rcases io_cases hi with rfl | rfl
    · simp [Ty.flat] at h
    · simp [Ty.flat] at h
section
variable {P : Program} {T : Tab} {H : Type} {enc : TypeId × Value → H} {w : World}
theorem cells_one {v : Value} (h : ∀ cs, v ≠ .agg cs) : v.cells = #[v] := by
  cases v <;> first | rfl | exact (h _ rfl).elim
theorem wrap_ok (hT : TabOk P T) {n b0 : Nat} {t : TypeId} {τ : Ty} {v : Value} (hf : fitsB T n t τ = true) (hv : Value.okWide P w .any b0 t v) : v = wrapV τ v.cells.toList := by
  cases n with
  | zero => simp [fitsB] at hf
  | succ n =>
    have one : (∀ cs, v ≠ .agg cs) → τ.isAgg = false → v = wrapV τ v.cells.toList := fun h h2 => by
      rw [cells_one h]; simp [wrapV, h2]
    unfold fitsB at hf
    split at hf
    · rename_i k j hu
      refine one (fun cs hc => ?_) rfl
      subst hc; simp [Value.okWide, und_P hT hu, Cell.okWide, Cell.ok] at hv
    · rename_i hu
      refine one (fun cs hc => ?_) rfl
      subst hc; simp [Value.okWide, und_P hT hu, Cell.okWide, Cell.ok] at hv
    · rename_i hu
      refine one (fun cs hc => ?_) rfl
      subst hc; simp [Value.okWide, und_P hT hu, Cell.okWide, Cell.ok] at hv
    · rename_i e u hu
      refine one (fun cs hc => ?_) rfl
      subst hc; simp [Value.okWide, und_P hT hu, Cell.okWide, Cell.ok] at hv
    · rename_i τ x2 τ' fs hu
      simp only [Value.okWide, und_P hT hu] at hv
      obtain ⟨cs, rfl, _⟩ := hv
      simp only [Bool.and_eq_true] at hf
      have ha : τ.isAgg = true := by
        cases n with
        | zero => simp [fitsFB] at hf
        | succ n =>
          cases fs.toList <;> cases τ <;> first | rfl | (simp [fitsFB] at hf)
      simp [wrapV, ha, Value.cells]
    · cases hf
theorem args_ofS (hT : TabOk P T) (kids : Kids P (· < P.types.size)) (hby : ∀ t e, t < P.types.size → P.underlying t = some (.slice e) → 0 < P.bytesOf e) {b0 : Nat} {L I : Set'} (hI : ∀ b, b < w.heap.size → I b) : ∀ {ts : List TypeId} {ps : List (Bool × Ty)} {vs : List Value} {ds : List (DataW H)} {q : List MemPlace}, fitsLB T ts ps = true →
    DataW.TrodAll enc P w 0 (fun _ => true) true ts vs ds q → (∀ n ∈ DataW.weightsEach P ts ds, n ≤ reachBytes) → (∀ t ∈ ts, t < P.types.size) → (∀ (j : Nat) t v, ts[j]? = some t → vs[j]? = some v → Value.okWide P w .any b0 t v) →
    ∃ a : denL (ps.map (·.2)), ArgsR (hpOf w) L I ps a vs (ps.map fun _ => []) ∧ inTySL ps a
  | [], [], vs, ds, q, _, hA, _, _, _ => by
    obtain ⟨rfl, rfl, rfl⟩ := trodAll_nil hA
    exact ⟨(), trivial, trivial⟩
  | [], _ :: _, _, _, _, h, _, _, _, _ => by simp [fitsLB] at h
  | _ :: _, [], _, _, _, h, _, _, _, _ => by simp [fitsLB] at h
  | t :: ts, (l, τ) :: ps, vs, ds, q, h, hA, hwt, hps, hv => by
    simp only [fitsLB, Bool.and_eq_true] at h
    obtain ⟨⟨h, hfl⟩, hfr⟩ := h
    obtain ⟨v, vs', d, ds', p, q', rfl, rfl, rfl, h1, h2⟩ := trodAll_cons hA
    obtain ⟨a, g1, g2⟩ := args_ofS hT kids hby (L := L) hI hfr h2 (fun n hn => hwt n (by simp only [DataW.weightsEach, List.mem_append]; exact .inr hn)) (fun t ht => hps t (by simp [ht])) (fun j t' v' e1 e2 => hv (j + 1) t' v' (by simpa using e1) (by simpa using e2))
    obtain ⟨fuel, hx⟩ := h1
    obtain ⟨x, k1, k2⟩ := (trod_repS hT kids hby 40).1 h hx (fun n hn => hwt n (by simp only [DataW.weightsEach, List.mem_append]; exact .inl hn)) (hps t (by simp))
    refine ⟨(x, a), ⟨⟨_, ?_, wrap_ok hT h (hv 0 t v (by simp) (by simp))⟩, g1⟩, k2, g2⟩
    have k3 : Rep (hpOf w) (Sx L I l) true τ x v.cells.toList [] := Rep.keep (S := fun b => b < w.heap.size) (fun b hb => ⟨.inl (hI b hb), rfl⟩) (fun _ _ => rfl) k1
    unfold ArgR
    rw [ioTy_flat hfl]
    exact rep_any hfl k3
theorem trodAll_len : ∀ {ts : List TypeId} {vs : List Value} {ds : List (DataW H)} {ps : List MemPlace}, DataW.TrodAll enc P w 0 (fun _ => true) true ts vs ds ps → ds.length = ts.length
  | [], _, _, _, h => by obtain ⟨rfl, rfl, rfl⟩ := trodAll_nil h; rfl
  | _ :: _, _, _, _, h => by
    obtain ⟨v, vs', d, ds', p, q', rfl, rfl, rfl, _, h2⟩ := trodAll_cons h
    simp [trodAll_len h2]
theorem same_of_heap {w w' : World} {p : MemPlace} (h : p.block < w.heap.size) (he : ∀ b, b < w.heap.size → hpOf w' b = hpOf w b) : w.sameAt w' p := by
  have e : w'.heap[p.block]? = w.heap[p.block]? := he _ h
  cases p with
  | cell b off =>
    show w'.cell? ⟨b, off, none⟩ = w.cell? ⟨b, off, none⟩
    unfold World.cell?
    simp only [MemPlace.block] at e
    simp only [e]
  | map b => exact e
theorem kept_of_heap {w w' : World} {may : MemPlace → Prop} (he : ∀ b, b < w.heap.size → hpOf w' b = hpOf w b) (hz : restOf w' = restOf w) : w.keptBut w' may := by
  simp only [restOf, Prod.mk.injEq] at hz
  refine ⟨hz.1, hz.2, fun i hi => ?_⟩
  have e : w'.heap[i]? = w.heap[i]? := he i hi
  rw [e]
  cases h : w.heap[i]? with
  | none => rfl
  | some o =>
    cases o with
    | cells c t fr => exact ⟨rfl, rfl, rfl, fun _ _ => rfl⟩
    | map es clock => exact .inr ⟨rfl, rfl⟩
    | _ => rfl
theorem trodAll_carry {w' : World} (he : ∀ b, b < w.heap.size → hpOf w' b = hpOf w b) : ∀ {ts : List TypeId} {vs : List Value} {ds : List (DataW H)} {ps : List MemPlace},
    DataW.TrodAll enc P w 0 (fun _ => true) true ts vs ds ps → DataW.TrodAll enc P w' 0 (fun _ => true) true ts vs ds ps
  | [], _, _, _, h => by
    obtain ⟨rfl, rfl, rfl⟩ := trodAll_nil h
    exact rfl
  | _ :: _, _, _, _, h => by
    obtain ⟨v, vs', d, ds', p, q', rfl, rfl, rfl, ⟨fuel, h1⟩, h2⟩ := trodAll_cons h
    refine ⟨p, q', ⟨fuel, DataW.trod_carry _ _ _ _ h1 fun x hx => same_of_heap (DataW.trod_lt _ _ _ _ h1 x hx) he⟩, trodAll_carry he h2, rfl⟩
theorem law_callsS (hT : TabOk P T) {G : Glob} (hby : ∀ t e, t < P.types.size → P.underlying t = some (.slice e) → 0 < P.bytesOf e) {f : FuncId} {fd : Func} {ps : List (Bool × Ty)} {s : ChangeSpec} {apart fresh handsOn again : Bool} {tb : TypeId}
    (kids : Kids P (· < P.types.size)) (full : ∀ t e, t < P.types.size → P.underlying t = some (.slice e) → 0 < P.cellsOf e)
    (hps : ∀ t ∈ fd.params.toList, t < P.types.size) (hfit : fitsLB T fd.params.toList ps = true) (hrt : fd.resultTypes = #[tb]) (htb : P.underlying tb = some .bool)
    (hvars : s.vars = []) (hs : ∀ ds : List (DataW H), ds.length = fd.params.size → s.fn H ds = { results := [.lit (.bool true)], args := ds })
    (hH : ∀ a : denL (ps.map (·.2)), inTySL ps a → ∃ o, Hold P T G f ps [.bool] a (true, ()) o)
    (W : World) (hG : ∀ g v, G g = some v → Rep (hpOf W) (fun b => b < W.heap.size) true (.ref false v.t) v.a [.pointer (some ⟨g, 0, none⟩)] []) (base : Nat) (args : Array Value) (ds gs : List (DataW H)) (before : List MemPlace)
    (hval : ∀ (j : Nat) t v, fd.params[j]? = some t → args[j]? = some v → Value.okWide P W .any base t v)
    (hW : DataW.Whole enc P fd.params.toList s.vars apart W args.toList ds gs before)
    (hsz : (DataW.weightsEach P (fd.params.toList ++ s.plain.varTypes P) (ds ++ gs)).all (· ≤ reachBytes) = true) :
    Calls P f args W fun e W' => ∃ v, e = .returned v ∧ s.post enc P fd apart fresh handsOn again W args v W' := by
  obtain ⟨p, q, hA, hV, hpq, hfz, hnd⟩ := id hW
  rw [hvars] at hV
  obtain ⟨rfl, rfl⟩ := trodVars_none hV
  rw [List.append_nil] at hpq
  subst hpq
  have hwt : ∀ n ∈ DataW.weightsEach P fd.params.toList ds, n ≤ reachBytes := by
    intro n hn
    have hvt : s.plain.varTypes P = [] := by
      unfold DataSpec.varTypes
      have : s.plain.vars = [] := hvars
      rw [this]; rfl
    rw [hvt, List.append_nil, List.append_nil] at hsz
    simpa using List.all_eq_true.1 hsz n hn
  let C : Ctx := { P := P, T := T, h := hpOf W, n := W.heap.size, L := fun _ => False, I := fun b => b < W.heap.size, X := fun _ => False, z := restOf W, G := G, tk := []
                   Iok := fun b h => ⟨h, fun h => h⟩
                   Lok := fun _ h => h.elim
                   ok := hT.1
                   eqs := hT.2.1
                   zag := hT.2.2
                   gok := fun g v hg => Rep.keep (fun b hb => ⟨.inl hb, rfl⟩) (fun _ _ => rfl) (hG g v hg) }
  obtain ⟨a, ha, hin⟩ := args_ofS (I := C.I) (L := C.L) hT kids hby (fun b h => h) hfit hA hwt hps (fun j t v e1 e2 => hval j t v (by simpa using e1) (by simpa using e2))
  obtain ⟨o, hh⟩ := hH a hin
  have hX : ∀ l : List (Bool × Ty), ((l.map fun _ => ([] : List Nat))).flatten = [] := by
    intro l
    induction l with
    | nil => rfl
    | cons _ _ ih => simp
  have := hh C rfl rfl rfl rfl W args.toList _ rfl rfl rfl ha (fun b => by rw [hX]; simp [C]) (by rw [hX]; simp) (by rw [hX]; simp)
  rw [Array.toArray_toList] at this
  refine this.mono ?_
  rintro e W' ⟨v, I', vals, Ys, Zs, rfl, hB⟩
  have hfr : ∀ b, b < W.heap.size → hpOf W' b = hpOf W b := fun b hb => hB.frame b hb (fun h => h)
  have hv : v = .bool true := by
    have hr := hB.rets
    have hval := hB.val
    match vals, Ys, hr with
    | [v1], [Y1], ⟨⟨cs, h1, h2⟩, _⟩ =>
      rw [hval, h2, h1.1]; rfl
    | [], _, h => exact h.elim
    | [_], [], h => exact h.elim
    | _ :: _ :: _, [], h => exact h.elim
    | _ :: _ :: _, _ :: _, ⟨_, h⟩ => exact h.elim
    | [_], _ :: _ :: _, ⟨_, h⟩ => exact h.elim
  subst hv
  refine ⟨_, rfl, ?_⟩
  have hlen := trodAll_len hA
  have hs' := hs ds (by simpa using hlen)
  have hold : ∀ b ∈ before, (fun b => decide (b < W.heap.size)) b.block = true := fun b hb => by simpa using hW.lt b hb
  have hargs : ∀ sp : Nat → Bool, (∀ p ∈ before, sp p.block = true) → DataW.TrodAll enc P W' 0 sp true fd.params.toList args.toList ds before := fun sp hsp =>
    DataW.TrodAll.respare kids full hps (trodAll_carry hfr hA) hsp
  have hres : ∀ (b : Nat) (sp : Nat → Bool) (hd : Bool), DataW.TrodAll enc P W' b sp hd fd.resultTypes.toList ((Value.bool true).resultList fd.resultTypes.size) [.lit (.bool true)] [] := by
    intro b sp hd
    rw [hrt]
    exact trodAll_mk1 (shut_bool htb true)
  have hz : ∀ b off, MemPlace.cell b off ∈ before → W'.frozen? ⟨b, off, none⟩ = false := by
    intro b off hp
    have hlt : b < W.heap.size := hW.lt _ hp
    rw [← hfz b off hp]
    have e : W'.heap[b]? = W.heap[b]? := hfr b hlt
    unfold World.frozen?
    simp only [e]
  refine ⟨ds, [], before, [], before, [], hW, ?_, ?_, ?_, kept_of_heap hfr hB.rest, fun _ => ⟨?_, [.lit (.bool true)] ++ ds, [], [] ++ before, ⟨[] ++ before, [], trodAll_append (hargs _ (fun _ _ => rfl)) (hres _ _ _), ?_, by simp, by simpa [World.noneFrozen] using hz, by simpa using hnd⟩, fun p hp _ => by simpa using hp⟩⟩
  · rw [List.append_nil, hs']; exact hres _ _ _
  · rw [List.append_nil, hs']; exact hargs _ hold
  · rw [List.append_nil, hs', hvars]; exact rfl
  · intro j t r h1 h2
    rw [hrt] at h1 h2
    cases j with
    | zero =>
      simp [Value.resultList] at h1 h2
      subst h1; subst h2
      simp [Value.okWide, htb, Cell.okWide, Cell.ok]
    | succ j => simp at h1
  · rw [hvars]; exact rfl
end
end Go.Proofs.YthlpjdjipchdkaaDoor.E

namespace Go.Proofs.YthlpjdjipchdkaaDoor.E
open Go Go.ChangeShapes Go.WideShapes Go.RowKit
set_option linter.unusedSimpArgs false
set_option linter.unusedVariables false
def tabOf (P : Program) : Tab := fun t =>
  match P.underlying t, P.info? t with
  | some d, some j => match j.zero with
    | some z => match wrapsB d z with
      | true => some ⟨d, j.size, j.bytes, z.cells.toList, (match d with | .struct _ => !(P.stoodInHeld t) && !(P.eqGuardType P.depth t) | _ => false)⟩
      | false => none
    | none => none
  | _, _ => none
theorem tabOf_some {P : Program} {t : TypeId} {i : TI} (h : tabOf P t = some i) : ∃ d j z, P.underlying t = some d ∧ P.info? t = some j ∧ j.zero = some z ∧ wrapsB d z = true ∧
    i = ⟨d, j.size, j.bytes, z.cells.toList, (match d with | .struct _ => !(P.stoodInHeld t) && !(P.eqGuardType P.depth t) | _ => false)⟩ := by
  unfold tabOf at h
  split at h
  · rename_i d j hd hj
    split at h
    · rename_i z hz
      split at h
      · rename_i hw
        exact ⟨d, j, z, hd, hj, hz, hw, (Option.some.inj h).symm⟩
      · cases h
    · cases h
  · cases h
theorem tabOf_ok (P : Program) : TabOk P (tabOf P) := by
  refine ⟨fun t i h => ?_, fun t i h he => ?_, fun t i h j z hj hz => ?_⟩
  · obtain ⟨d, j, z, hd, hj, hz, hw, rfl⟩ := tabOf_some h
    exact ⟨hd, j, z, hj, rfl, rfl, hz, rfl⟩
  · obtain ⟨d, j, z, hd, hj, hz, hw, rfl⟩ := tabOf_some h
    simp only at he
    split at he
    · simpa using he
    · cases he
  · obtain ⟨d, j', z', hd, hj', hz', hw, rfl⟩ := tabOf_some h
    rw [hj] at hj'
    obtain rfl := Option.some.inj hj'
    rw [hz] at hz'
    obtain rfl := Option.some.inj hz'
    exact hw
def tyFs (g : TypeId → Option Ty) : List Field → Option Ty
  | [] => some .unit
  | f :: fs => match g f.type, tyFs g fs with
    | some a, some b => some (.pair a b)
    | _, _ => none
def tyOf (P : Program) (tyT : List (Nat × Ty)) : Nat → TypeId → Option Ty
  | 0, _ => none
  | n + 1, t => match tab tyT t with
    | some τ => some τ
    | none => match P.underlying t with
      | some (.int k) => some (.int k)
      | some .bool => some .bool
      | some .string => some .str
      | some (.slice e) => match tyOf P tyT n e with | some u => some (.sl false u) | none => none
      | some (.array m e) => match tyOf P tyT n e with | some u => some (.arr m u) | none => none
      | some (.struct fs) => tyFs (tyOf P tyT n) fs.toList
      | _ => none
def tab2 {α : Type} (l : List (Nat × List (Nat × α))) (a b : Nat) : Option α := match tab l a with | some l => tab l b | none => none
def annOf (l : List (Nat × List (Nat × List (Nat × Cut)))) (b f i : Nat) : Option Cut := match tab l b with | some l => tab2 l f i | none => none
structure HandE where
  s : Sig
  g : denL s.pt → Option (denL s.rs × denL s.os)
def sigH : Option HandE → Sig → Sig
  | some e, _ => e.s
  | none, s => s
def handH : (h : Option HandE) → (s : Sig) → Option (denL (sigH h s).pt → Option (denL (sigH h s).rs × denL (sigH h s).os))
  | some e, _ => some e.g
  | none, _ => none
def mkEnv (P : Program) (tyT : List (Nat × Ty)) (tyF : List (Nat × List (Nat × Ty))) (sigT : List (Nat × Sig)) (inlT : List (Nat × Sig)) (annT : List (Nat × List (Nat × List (Nat × Cut)))) (prim : FuncId → Option Nat → List SV → St → OpR) (G : Glob) (cutT : List (Nat × List Nat)) (handT : List (Nat × HandE) := []) : Env :=
  { T := tabOf P, F := fun f => P.funcs[f]?, ty := fun f t => match tab2 tyF f t with | some τ => some τ | none => tyOf P tyT 12 t,
    sig := fun f => sigH (tab handT f) (match tab sigT f with | some s => s | none => (tab inlT f).getD ⟨[], []⟩), known := fun f => (tab sigT f).isSome || (tab handT f).isSome, inl := fun f => (tab inlT f).isSome,
    ann := annOf annT, prim := prim, G := G, hand := fun f => handH (tab handT f) (match tab sigT f with | some s => s | none => (tab inlT f).getD ⟨[], []⟩), cutAt := fun f i => match tab cutT f with | some l => natMem i l | none => false }
theorem tab_mem {α : Type} : ∀ {l : List (Nat × α)} {n : Nat} {x : α}, tab l n = some x → (n, x) ∈ l
  | [], n, x, h => by simp [tab] at h
  | (k, y) :: l, n, x, h => by
    unfold tab at h
    split at h
    · rename_i he
      cases h
      rw [Nat.eq_of_beq_eq_true he]; simp
    · exact List.mem_cons_of_mem _ (tab_mem h)
def bodied {α : Type} (P : Program) (l : List (Nat × α)) : Bool := l.all fun p => match P.funcs[p.1]? with | some F => F.body.isSome && !(F.name == "runtime.NumGoroutine") | none => false
theorem bodied_ok {α : Type} {P : Program} {l : List (Nat × α)} (hk : bodied P l = true) (f : FuncId) (hf : (tab l f).isSome = true) : ∃ F, P.funcs[f]? = some F ∧ F.body.isSome = true ∧ F.name ≠ "runtime.NumGoroutine" := by
  simp only [Option.isSome_iff_exists] at hf
  obtain ⟨x, hx⟩ := hf
  have := List.all_eq_true.1 hk _ (tab_mem hx)
  simp only at this
  split at this
  · rename_i F hF
    simp only [Bool.and_eq_true, Bool.not_eq_true', beq_eq_false_iff_ne] at this
    exact ⟨F, hF, this.1, this.2⟩
  · cases this
def HandsOk (P : Program) (G : Glob) (handT : List (Nat × HandE)) : Prop :=
  ∀ f e, tab handT f = some e → ∀ a q o, e.g a = some (q, o) → Hold P (tabOf P) G f e.s.ps e.s.rs a q o
theorem handH_ok {P : Program} {T : Tab} {G : Glob} {f : FuncId} : ∀ {h : Option HandE} {s : Sig} {g}, handH h s = some g → (∀ e, h = some e → ∀ a q o, e.g a = some (q, o) → Hold P T G f e.s.ps e.s.rs a q o) →
    ∀ a q o, g a = some (q, o) → Hold P T G f (sigH h s).ps (sigH h s).rs a q o
  | some e, s, g, h, hh => by
    obtain rfl := Option.some.inj h
    exact hh e rfl
  | none, s, g, h, _ => by cases h
theorem HandsOk.nil {P : Program} {G : Glob} : HandsOk P G [] := fun f e h => by cases h
theorem mkEnv_ok {P : Program} {tyT : List (Nat × Ty)} {tyF : List (Nat × List (Nat × Ty))} {sigT inlT : List (Nat × Sig)} {annT : List (Nat × List (Nat × List (Nat × Cut)))} {prim : FuncId → Option Nat → List SV → St → OpR} {G : Glob} {cutT : List (Nat × List Nat)} {handT : List (Nat × HandE)}
    (hmx : P.follows .mixedOrders = true) (hpr : PrimOk P (mkEnv P tyT tyF sigT inlT annT prim G cutT handT)) (hk : bodied P sigT = true) (hi : bodied P inlT = true) (k : Nat)
    (hh : HandsOk P G handT := by exact HandsOk.nil) (hb : bodied P handT = true := by rfl) :
    FnOk P (mkEnv P tyT tyF sigT inlT annT prim G cutT handT) (fnE (mkEnv P tyT tyF sigT inlT annT prim G cutT handT) k) :=
  fnE_ok hmx (fun f fd h => h) (fun f hf => by
    have hf : ((tab sigT f).isSome || (tab handT f).isSome) = true := hf
    rcases Bool.or_eq_true _ _ ▸ hf with h | h
    · exact bodied_ok hk f h
    · exact bodied_ok hb f h) (bodied_ok hi) hpr (fun f g hg => handH_ok hg (fun e he => hh f e he)) k
mutual
def readD {H : Type} : Nat → (τ : Ty) → DataW H → Option (den τ)
  | 0, _, _ => none
  | _ + 1, .int k, .lit (.int j n) => match kindEq k j with | true => some n | false => none
  | _ + 1, .bool, .lit (.bool b) => some b
  | _ + 1, .str, .lit (.string s) => some s
  | n + 1, .pair a b, .agg ds => readF n (.pair a b) ds
  | _, _, _ => none
def readF {H : Type} : Nat → (τ : Ty) → List (DataW H) → Option (den τ)
  | _ + 1, .unit, [] => some ()
  | n + 1, .pair a b, d :: ds => match readD n a d, readF n b ds with | some x, some y => some (x, y) | _, _ => none
  | _, _, _ => none
end
section
variable {P : Program} {T : Tab} {H : Type} {enc : TypeId × Value → H} {w : World} {S : Set'} {base : Nat} {sp : Nat → Bool} {hd : Bool}
theorem trod_read (hT : TabOk P T) : ∀ (n : Nat),
    (∀ {t : TypeId} {τ : Ty} {a : den τ}, fitsB T n t τ = true → ∀ {fuel : Nat} {cs : List Value} {x : DataW H × List MemPlace}, DataW.trod enc P w base sp hd fuel t cs = some x → ∀ k, readD k τ x.1 = some a → Rep (hpOf w) S true τ a cs []) ∧
    (∀ {fs : List Field} {τ : Ty} {o : Nat} {a : den τ}, fitsFB T n fs τ o = true → ∀ {cs : List Value} {xs : List (DataW H × List MemPlace)}, xs.length = fs.length → (∀ (i : Nat) f x, fs[i]? = some f → xs[i]? = some x → ∃ fuel, DataW.trod enc P w base sp hd fuel f.type ((cs.drop f.offset).take (P.cellsOf f.type)) = some x) →
      o + τ.size = cs.length → ∀ k, readF k τ (xs.map (·.1)) = some a → Rep (hpOf w) S true τ a (cs.drop o) [])
  | 0 => ⟨fun h => by simp [fitsB] at h, fun h => by simp [fitsFB] at h⟩
  | n + 1 => by
    obtain ⟨ih1, ih2⟩ := trod_read hT n
    constructor
    · intro t τ a h fuel cs x hx k hk
      unfold fitsB at h
      cases k with
      | zero => simp [readD] at hk
      | succ k =>
      split at h
      · rename_i k' j hu
        obtain rfl := kindEq_iff h
        obtain ⟨m, rfl, h2, h3⟩ := DataW.trod_int (und_P hT hu) hx
        rw [h2] at hk
        simp only [readD] at hk
        split at hk
        · obtain rfl := Option.some.inj hk
          exact ⟨rfl, rfl⟩
        · cases hk
      · rename_i hu
        obtain ⟨b, rfl, h2⟩ := DataW.trod_bool (und_P hT hu) hx
        rw [h2] at hk
        simp only [readD] at hk
        obtain rfl := Option.some.inj hk
        exact ⟨rfl, rfl⟩
      · rename_i hu
        obtain ⟨s, rfl, h2, h3⟩ := DataW.trod_string (und_P hT hu) hx
        rw [h2] at hk
        simp only [readD] at hk
        obtain rfl := Option.some.inj hk
        exact ⟨rfl, rfl⟩
      · rename_i e u hu
        simp [readD] at hk
      · rename_i τ x2 τ' fs hu
        simp only [Bool.and_eq_true] at h
        obtain ⟨h1, h2⟩ := h
        obtain ⟨xs, m, _, rfl, hl, hlen, hf⟩ := DataW.trod_struct (und_P hT hu) hx
        have hp : ∃ b c, τ = .pair b c := by
          cases τ <;> first | exact ⟨_, _, rfl⟩ | (simp [readD] at hk)
        obtain ⟨b, c, rfl⟩ := hp
        simp only [readD] at hk
        have := ih2 h2 (cs := cs) (xs := xs) (by simpa using hlen) (fun i f x hfi hxi => ⟨m, by
          have hi' : i < fs.size := by
            obtain ⟨h0, _⟩ := List.getElem?_eq_some_iff.1 hfi
            simpa using h0
          have := hf i f (by simpa using hfi)
          rw [this, hxi]⟩) (by rw [hl, sz_P hT h1]; simp) k hk
        simpa using this
      · cases h
    · intro fs τ o a h cs xs hxl hfs hlen k hk
      unfold fitsFB at h
      cases k with
      | zero => simp [readF] at hk
      | succ k =>
      split at h
      · rename_i h0; cases h0
      · obtain rfl := List.length_eq_zero_iff.1 hxl
        simp only [List.map_nil, readF] at hk
        refine ⟨?_, rfl⟩
        apply List.drop_eq_nil_of_le
        simp [Ty.size] at hlen
        omega
      · rename_i o' m f fs' a' b hn
        obtain rfl : m = n := by omega
        simp only [Bool.and_eq_true] at h
        obtain ⟨⟨⟨h1, h2⟩, h3⟩, h4⟩ := h
        obtain rfl := Nat.eq_of_beq_eq_true h1
        simp only [Ty.size] at hlen
        match xs, hxl with
        | x :: xs', hxl =>
          simp only [List.map_cons, readF] at hk
          cases hd1 : readD k a' x.1 with
          | none => simp [hd1] at hk
          | some y =>
            cases hd2 : readF k b (xs'.map (·.1)) with
            | none => simp [hd1, hd2] at hk
            | some z =>
              simp only [hd1, hd2] at hk
              obtain rfl := Option.some.inj hk
              obtain ⟨fuel, hx⟩ := hfs 0 f x (by simp) (by simp)
              rw [sz_P hT h2] at hx
              have g1 := ih1 h3 hx k hd1
              have g2 := ih2 h4 (cs := cs) (xs := xs') (by simpa using hxl) (fun i f' x' e1 e2 => hfs (i + 1) f' x' (by simpa using e1) (by simpa using e2)) (by omega) k hd2
              refine ⟨(cs.drop f.offset).take a'.size, cs.drop (f.offset + a'.size), [], [], ?_, rfl, g1, g2⟩
              rw [← List.drop_drop, List.take_append_drop]
      · cases h
theorem laid_rep (hT : TabOk P T) {W : World} {laid : List (String × DataW Unit)} (hL : laidMet P laid W) {n : String} {d : DataW Unit} (hm : (n, d) ∈ laid) {g : Nat} {t : TypeId} {τ : Ty} {a : den τ}
    (hg : P.globalNamed n = some g) (ht : (P.globals[g]?).map (·.type) = some t) (hf : fitsB T 40 t τ = true) (hr : readD 40 τ d = some a) (hz : 0 < τ.size) :
    Rep (hpOf W) (fun b => b < W.heap.size) true (.ref false τ) a [.pointer (some ⟨g, 0, none⟩)] [] := by
  obtain ⟨ps, hv, _, _⟩ := hL
  have key : ∀ {l : List (String × DataW Unit)} {ps : List MemPlace}, DataW.LaidVars P W l ps → (n, d) ∈ l → ∃ g t cs fuel p, P.globalNamed n = some g ∧ (P.globals[g]?).map (·.type) = some t ∧ W.var? P n = some cs ∧ DataW.trod (fun _ => ()) P W 0 (fun _ => true) false fuel t cs.toList = some (d, p) := by
    intro l
    induction l with
    | nil => intro ps _ hm; cases hm
    | cons x r ih =>
      obtain ⟨n', d'⟩ := x
      rintro ps ⟨g, t, cs, fuel, p, q, h1, h2, h3, h4, h5, h6⟩ hm
      rcases List.mem_cons.1 hm with e | hm
      · cases e
        exact ⟨g, t, cs, fuel, p, h1, h2, h3, h4⟩
      · exact ih h5 hm
  obtain ⟨g', t', cs, fuel, p, h1, h2, h3, h4⟩ := key hv hm
  obtain rfl := Option.some.inj (hg.symm.trans h1)
  obtain rfl := Option.some.inj (ht.symm.trans h2)
  have hrep := (trod_read (S := fun b => b < W.heap.size) hT 40).1 hf h4 40 hr
  have hlen := hrep.len
  simp only [World.var?, hg, Option.bind_some] at h3
  split at h3
  · rename_i c E fr hb
    obtain rfl := Option.some.inj h3
    have hbl : g < W.heap.size := (Array.getElem?_eq_some_iff.1 hb).1
    refine ⟨g, 0, c, E, fr, [], rfl, hb, ?_, ?_, ?_⟩
    · simp at hlen; omega
    · have : ((c.toList.drop 0).take τ.size) = c.toList := by
        rw [List.drop_zero, List.take_of_length_le (by omega)]
      rw [this]; exact hrep
    · simp [hbl]
  · cases h3
end
end Go.Proofs.YthlpjdjipchdkaaDoor.E

namespace Go.Proofs.YthlpjdjipchdkaaDoor.E
open Go
set_option linter.unusedVariables false
abbrev TId := Int × (Int × Unit)
theorem both_self {R : Type} (A : Option R) : both A A = A := by unfold both; rw [if_pos rfl]
def findX (id : Nat) : Code → Option Code
  | .seq a b => match findX id a with | some c => some c | none => findX id b
  | .cond c a b => match Nat.beq (1000 + ridOf a) id with | true => some (.cond c a b) | false => match findX id a with | some c => some c | none => findX id b
  | .block j (.loop c) => match Nat.beq j id with | true => some c | false => findX id c
  | .block j c => match Nat.beq j id with | true => some c | false => findX id c
  | .loop c => findX id c
  | .region j ops d => match Nat.beq (2000 + j) id with | true => some (.region j ops d) | false => none
  | _ => none
noncomputable def bodyAt (E : Env) (fn : E.Fn) (inl : Inl) (f : FuncId) (rv : List ResultVar) (k : Nat) (c : Code) (R : Type) (σ : St) (K : Ex (denL (E.sig f).rs) → St → Option R) : Option R :=
  match c with
  | .region id ops draw => match draw with
    | false => runOps E fn inl f ops.toList ops.toList σ (K .n)
    | true => runDraw E fn inl f ops.toList σ (K .n)
  | .cond c a b => match asB (σ.arg E.G none c) with
    | some g => br g (ev E fn inl f rv k a _ σ (guardE (1000 + ridOf a) K)) (ev E fn inl f rv k b _ σ (guardE (1000 + ridOf a) K))
    | none => none
  | c => ev E fn inl f rv k c _ σ K
end Go.Proofs.YthlpjdjipchdkaaDoor.E

