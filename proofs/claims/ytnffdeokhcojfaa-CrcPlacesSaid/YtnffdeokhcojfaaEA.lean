/- A plain evaluator of the program's form on data by value, and the proof that it is sound. No condition. -/
import Derived.Calls
import Derived.Laws.AppendOwn
import Derived.Laws.Strings
import Derived.Laws.MakeOwn
import Derived.Laws.BytesArg
import Derived.Lib.ConvBytes

namespace Go.Proofs.Ytnffdeokhcojfaa.E
open Go
set_option linter.unusedSimpArgs false
set_option linter.unusedVariables false

/-! data by value: a small universe of types -/

inductive Ty
  | int (k : IntKind) | bool | str | unit
  | pair (a b : Ty)
  | arr (n : Nat) (t : Ty)
  | sl (own : Bool) (t : Ty)
  | ptr (own : Bool) (t : Ty)
  | ref (own : Bool) (t : Ty)
  | map (own : Bool) (k v : Ty)

def kindNo : IntKind → Nat
  | .i8 => 0 | .i16 => 1 | .i32 => 2 | .i64 => 3 | .u8 => 4 | .u16 => 5 | .u32 => 6 | .u64 => 7

def kindEq (j k : IntKind) : Bool := Nat.beq (kindNo j) (kindNo k)

theorem kindEq_iff {j k : IntKind} (h : kindEq j k = true) : j = k := by
  cases j <;> cases k <;> first | rfl | (simp [kindEq, kindNo] at h)

def boolEq : Bool → Bool → Bool
  | true, b => b
  | false, true => false
  | false, false => true

def tyEq : Ty → Ty → Bool
  | .int k, .int j => kindEq k j
  | .bool, .bool => true
  | .str, .str => true
  | .unit, .unit => true
  | .pair a b, .pair c d => tyEq a c && tyEq b d
  | .arr n t, .arr m u => Nat.beq n m && tyEq t u
  | .sl o t, .sl p u => boolEq o p && tyEq t u
  | .ptr o t, .ptr p u => boolEq o p && tyEq t u
  | .ref o t, .ref p u => boolEq o p && tyEq t u
  | .map o k v, .map p l w => boolEq o p && tyEq k l && tyEq v w
  | _, _ => false

theorem boolEq_iff {a b : Bool} (h : boolEq a b = true) : a = b := by cases a <;> cases b <;> first | rfl | cases h

theorem tyEq_iff : ∀ {t u : Ty}, tyEq t u = true → t = u := by
  intro t
  induction t with
  | int k => intro u h; cases u <;> first | (simp [tyEq] at h; done) | (simp only [tyEq] at h; rw [kindEq_iff h])
  | bool => intro u h; cases u <;> first | rfl | (simp [tyEq] at h; done)
  | str => intro u h; cases u <;> first | rfl | (simp [tyEq] at h; done)
  | unit => intro u h; cases u <;> first | rfl | (simp [tyEq] at h; done)
  | pair a b iha ihb => intro u h; cases u <;> first | (simp [tyEq] at h; done) | (simp only [tyEq, Bool.and_eq_true] at h; rw [iha h.1, ihb h.2])
  | arr n t ih => intro u h; cases u <;> first | (simp [tyEq] at h; done) | (simp only [tyEq, Bool.and_eq_true] at h; rw [Nat.eq_of_beq_eq_true h.1, ih h.2])
  | sl o t ih => intro u h; cases u <;> first | (simp [tyEq] at h; done) | (simp only [tyEq, Bool.and_eq_true] at h; rw [boolEq_iff h.1, ih h.2])
  | ptr o t ih => intro u h; cases u <;> first | (simp [tyEq] at h; done) | (simp only [tyEq, Bool.and_eq_true] at h; rw [boolEq_iff h.1, ih h.2])
  | ref o t ih => intro u h; cases u <;> first | (simp [tyEq] at h; done) | (simp only [tyEq, Bool.and_eq_true] at h; rw [boolEq_iff h.1, ih h.2])
  | map o k v ihk ihv => intro u h; cases u <;> first | (simp [tyEq] at h; done) | (simp only [tyEq, Bool.and_eq_true] at h; rw [boolEq_iff h.1.1, ihk h.1.2, ihv h.2])

@[reducible] def den : Ty → Type
  | .int _ => Int
  | .bool => Bool
  | .str => List UInt8
  | .unit => Unit
  | .pair a b => den a × den b
  | .arr _ t => List (den t)
  | .sl _ t => List (den t)
  | .ptr _ t => Option (den t)
  | .ref _ t => den t
  | .map _ k v => List (den k × den v)

def Ty.size : Ty → Nat
  | .unit => 0
  | .pair a b => a.size + b.size
  | .arr n t => n * t.size
  | _ => 1

def Ty.isAgg : Ty → Bool
  | .unit | .pair .. | .arr .. => true
  | _ => false

/-- no reference inside -/
def Ty.plain : Ty → Bool
  | .int _ | .bool | .str | .unit => true
  | .pair a b => a.plain && b.plain
  | .arr _ t => t.plain
  | _ => false

/-- nothing owned inside -/
def Ty.flat : Ty → Bool
  | .int _ | .bool | .str | .unit => true
  | .pair a b => a.flat && b.flat
  | .arr _ t => t.flat
  | .sl o t => !o && t.flat
  | .ptr o t => !o && t.flat
  | .ref o t => !o && t.flat
  | .map o k v => !o && k.flat && v.flat

def dflt : (t : Ty) → den t
  | .int _ => (0 : Int)
  | .bool => false
  | .str => ([] : List UInt8)
  | .unit => ()
  | .pair a b => (dflt a, dflt b)
  | .arr n t => List.replicate n (dflt t)
  | .sl _ t => ([] : List (den t))
  | .ptr _ t => (none : Option (den t))
  | .ref _ t => dflt t
  | .map _ k v => ([] : List (den k × den v))

abbrev Hp := Nat → Option Obj
abbrev Set' := Nat → Prop

/-- a row of values, one behind the other, each read by R -/
def RL {α : Type} (R : α → List Value → List Nat → Prop) : List α → List Value → List Nat → Prop
  | [], cs, X => cs = [] ∧ X = []
  | x :: xs, cs, X => ∃ c1 c2 X1 X2, cs = c1 ++ c2 ∧ X = X1 ++ X2 ∧ R x c1 X1 ∧ RL R xs c2 X2

/-- entries of a map -/
def RM {α β : Type} (K : α → List Value → List Nat → Prop) (V : β → List Value → List Nat → Prop) (wk wv : List Value → Value) :
    List (α × β) → List MapEntry → List Nat → Prop
  | [], es, X => es = [] ∧ X = []
  | x :: xs, es, X => ∃ e r ck cv X1 X2, es = e :: r ∧ X = X1 ++ X2 ∧ e.key = wk ck ∧ e.val = wv cv ∧ K x.1 ck [] ∧ V x.2 cv X1 ∧ RM K V wk wv xs r X2

/-- a value out of its cells -/
def wrapV (t : Ty) (cs : List Value) : Value := if t.isAgg then .agg cs.toArray else cs.headD undef

def calm (n : Nat) (fr : Nat × Nat) : Prop := fr = (0, 0) ∨ n ≤ fr.1

/-- what cells read as; 'len': all that is reached lies in S, and nothing is owned; else what is marked 'own' lies in the blocks X, each once -/
def Rep (h : Hp) (S : Set') (len : Bool) : (t : Ty) → den t → List Value → List Nat → Prop
  | .int k, n, cs, X => cs = [.int k n] ∧ X = []
  | .bool, b, cs, X => cs = [.bool b] ∧ X = []
  | .str, s, cs, X => cs = [.string ⟨⟨s⟩⟩] ∧ X = []
  | .unit, _, cs, X => cs = [] ∧ X = []
  | .pair a b, x, cs, X => ∃ c1 c2 X1 X2, cs = c1 ++ c2 ∧ X = X1 ++ X2 ∧ Rep h S len a x.1 c1 X1 ∧ Rep h S len b x.2 c2 X2
  | .arr n t, xs, cs, X => xs.length = n ∧ RL (Rep h S len t) xs cs X
  | .sl own t, xs, cs, X => ∃ a c, cs = [.slice a xs.length c] ∧ xs.length ≤ c ∧
      ((xs = [] ∧ a = a ∧ c = 0 ∧ X = []) ∨
       ∃ b o arr E fr X', a = some ⟨b, o, none⟩ ∧ h b = some (.cells arr E fr) ∧ o + c * t.size ≤ arr.size ∧
         RL (Rep h S len t) xs ((arr.toList.drop o).take (xs.length * t.size)) X' ∧
         if own && !len then X = b :: X' ∧ calm arr.size fr else S b ∧ X = [] ∧ X' = [])
  | .ptr own t, x, cs, X => match x with
    | none => cs = [.pointer none] ∧ X = []
    | some y => ∃ b o arr E fr X', cs = [.pointer (some ⟨b, o, none⟩)] ∧ h b = some (.cells arr E fr) ∧ o + t.size ≤ arr.size ∧ Rep h S len t y ((arr.toList.drop o).take t.size) X' ∧
         if own && !len then X = b :: X' ∧ calm arr.size fr ∧ o = 0 ∧ arr.size = t.size else S b ∧ X = [] ∧ X' = []
  | .ref own t, y, cs, X => ∃ b o arr E fr X', cs = [.pointer (some ⟨b, o, none⟩)] ∧ h b = some (.cells arr E fr) ∧ o + t.size ≤ arr.size ∧ Rep h S len t y ((arr.toList.drop o).take t.size) X' ∧
         if own && !len then X = b :: X' ∧ calm arr.size fr ∧ o = 0 ∧ arr.size = t.size else S b ∧ X = [] ∧ X' = []
  | .map own k v, es, cs, X => ∃ b ents clock X', cs = [.map (some b)] ∧ h b = some (.map ents clock) ∧
      RM (Rep h S len k) (Rep h S len v) (wrapV k) (wrapV v) es ents.toList X' ∧
         if own && !len then X = b :: X' else S b ∧ X = [] ∧ X' = []

/-! first laws -/

theorem RL.mono {α : Type} {R R' : α → List Value → List Nat → Prop} (hr : ∀ x c X, R x c X → R' x c X) :
    ∀ {xs : List α} {cs X}, RL R xs cs X → RL R' xs cs X
  | [], _, _, h => h
  | _ :: _, _, _, ⟨c1, c2, X1, X2, h1, h2, h3, h4⟩ => ⟨c1, c2, X1, X2, h1, h2, hr _ _ _ h3, RL.mono hr h4⟩

theorem RL.mono_mem {α : Type} {R R' : α → List Value → List Nat → Prop} :
    ∀ {xs : List α} {cs X}, (∀ x c Y, x ∈ xs → (∀ b ∈ Y, b ∈ X) → R x c Y → R' x c Y) → RL R xs cs X → RL R' xs cs X
  | [], _, _, _, h => h
  | _ :: _, _, _, hr, ⟨c1, c2, X1, X2, h1, h2, h3, h4⟩ =>
    ⟨c1, c2, X1, X2, h1, h2, hr _ _ _ (by simp) (by subst h2; intro b hb; simp [hb]) h3,
      RL.mono_mem (fun x c Y hx hY => hr x c Y (by simp [hx]) (by subst h2; intro b hb; have := hY b hb; simp [this])) h4⟩

theorem RL.len {α : Type} {R : α → List Value → List Nat → Prop} {s : Nat} (hr : ∀ x c X, R x c X → c.length = s) :
    ∀ {xs : List α} {cs X}, RL R xs cs X → cs.length = xs.length * s
  | [], _, _, ⟨h, _⟩ => by simp [h]
  | _ :: xs, _, _, ⟨c1, c2, X1, X2, h1, _, h3, h4⟩ => by
    rw [h1, List.length_append, hr _ _ _ h3, RL.len hr h4]; simp [Nat.add_mul]; omega

theorem RL.noX {α : Type} {R : α → List Value → List Nat → Prop} (hr : ∀ x c X, R x c X → X = []) :
    ∀ {xs : List α} {cs X}, RL R xs cs X → X = []
  | [], _, _, ⟨_, h⟩ => h
  | _ :: _, _, _, ⟨_, _, _, _, _, h2, h3, h4⟩ => by rw [h2, hr _ _ _ h3, RL.noX hr h4]; rfl

theorem RL.append {α : Type} {R : α → List Value → List Nat → Prop} :
    ∀ {xs ys : List α} {c d X Y}, RL R xs c X → RL R ys d Y → RL R (xs ++ ys) (c ++ d) (X ++ Y)
  | [], _, _, _, _, _, ⟨h1, h2⟩, hd => by subst h1; subst h2; simpa using hd
  | _ :: _, _, _, _, _, _, ⟨c1, c2, X1, X2, h1, h2, h3, h4⟩, hd =>
    ⟨c1, c2 ++ _, X1, X2 ++ _, by rw [h1, List.append_assoc], by rw [h2, List.append_assoc], h3, RL.append h4 hd⟩

theorem RL.split {α : Type} {R : α → List Value → List Nat → Prop} :
    ∀ {xs ys : List α} {c X}, RL R (xs ++ ys) c X → ∃ c1 c2 X1 X2, c = c1 ++ c2 ∧ X = X1 ++ X2 ∧ RL R xs c1 X1 ∧ RL R ys c2 X2
  | [], _, c, X, h => ⟨[], c, [], X, rfl, rfl, ⟨rfl, rfl⟩, h⟩
  | x :: xs, ys, c, X, ⟨c1, c2, X1, X2, h1, h2, h3, h4⟩ => by
    obtain ⟨d1, d2, Y1, Y2, e1, e2, e3, e4⟩ := RL.split h4
    exact ⟨c1 ++ d1, d2, X1 ++ Y1, Y2, by rw [h1, e1, List.append_assoc], by rw [h2, e2, List.append_assoc], ⟨c1, d1, X1, Y1, rfl, rfl, h3, e3⟩, e4⟩

theorem RM.mono_mem {α β : Type} {K K' : α → List Value → List Nat → Prop} {V V' : β → List Value → List Nat → Prop} {wk wv : List Value → Value} :
    ∀ {xs : List (α × β)} {es X}, (∀ x c, K x c [] → K' x c []) → (∀ x c Y, (∀ b ∈ Y, b ∈ X) → V x c Y → V' x c Y) → RM K V wk wv xs es X → RM K' V' wk wv xs es X
  | [], _, _, _, _, h => h
  | _ :: _, _, _, hk, hv, ⟨e, r, ck, cv, X1, X2, h1, h2, h3, h4, h5, h6, h7⟩ =>
    ⟨e, r, ck, cv, X1, X2, h1, h2, h3, h4, hk _ _ h5, hv _ _ _ (by subst h2; intro b hb; simp [hb]) h6,
      RM.mono_mem hk (fun x c Y hY => hv x c Y (by subst h2; intro b hb; have := hY b hb; simp [this])) h7⟩

theorem RM.noX {α β : Type} {K : α → List Value → List Nat → Prop} {V : β → List Value → List Nat → Prop} {wk wv : List Value → Value} (hr : ∀ x c X, V x c X → X = []) :
    ∀ {xs : List (α × β)} {es X}, RM K V wk wv xs es X → X = []
  | [], _, _, ⟨_, h⟩ => h
  | _ :: _, _, _, ⟨_, _, _, _, _, _, _, h2, _, _, _, h3, h4⟩ => by rw [h2, hr _ _ _ h3, RM.noX hr h4]; rfl

theorem Rep.len {h : Hp} {S : Set'} {l : Bool} : ∀ {t : Ty} {x : den t} {cs X}, Rep h S l t x cs X → cs.length = t.size
  | .int _, _, _, _, hr | .bool, _, _, _, hr | .str, _, _, _, hr => by rw [hr.1]; rfl
  | .unit, _, _, _, hr => by rw [hr.1]; rfl
  | .pair _ _, _, _, _, ⟨_, _, _, _, h1, _, h3, h4⟩ => by rw [h1, List.length_append, Rep.len h3, Rep.len h4]; rfl
  | .arr _ _, _, _, _, ⟨h1, h2⟩ => by rw [RL.len (fun _ _ _ => Rep.len) h2, h1]; rfl
  | .sl _ _, _, _, _, ⟨_, _, h1, _⟩ => by rw [h1]; rfl
  | .ptr _ _, none, _, _, hr => by rw [hr.1]; rfl
  | .ptr _ _, some _, _, _, ⟨_, _, _, _, _, _, h1, _⟩ => by rw [h1]; rfl
  | .ref _ _, _, _, _, ⟨_, _, _, _, _, _, h1, _⟩ => by rw [h1]; rfl
  | .map _ _ _, _, _, _, ⟨_, _, _, _, h1, _⟩ => by rw [h1]; rfl

/-- read as lent, nothing is owned -/
theorem Rep.lentX {h : Hp} {S : Set'} : ∀ {t : Ty} {x : den t} {cs X}, Rep h S true t x cs X → X = []
  | .int _, _, _, _, hr | .bool, _, _, _, hr | .str, _, _, _, hr | .unit, _, _, _, hr => hr.2
  | .pair _ _, _, _, _, ⟨_, _, _, _, _, h2, h3, h4⟩ => by rw [h2, Rep.lentX h3, Rep.lentX h4]; rfl
  | .arr _ _, _, _, _, ⟨_, h2⟩ => RL.noX (fun _ _ _ => Rep.lentX) h2
  | .sl o _, _, _, _, ⟨_, _, _, _, hr⟩ => by
    rcases hr with ⟨_, _, _, h⟩ | ⟨_, _, _, _, _, _, _, _, _, _, hx⟩
    · exact h
    · simp at hx; exact hx.2.1
  | .ptr _ _, none, _, _, hr => hr.2
  | .ptr _ _, some _, _, _, ⟨_, _, _, _, _, _, _, _, _, _, hx⟩ => by simp at hx; exact hx.2.1
  | .ref _ _, _, _, _, ⟨_, _, _, _, _, _, _, _, _, _, hx⟩ => by simp at hx; exact hx.2.1
  | .map _ _ _, _, _, _, ⟨_, _, _, _, _, _, _, hx⟩ => by simp at hx; exact hx.2.1

/-- a flat type owns nothing, and reads alike either way -/
theorem Rep.flat {h : Hp} {S : Set'} {l : Bool} : ∀ {t : Ty} {x : den t} {cs X}, t.flat = true → Rep h S l t x cs X → X = [] ∧ Rep h S true t x cs []
  | .int _, _, _, _, _, hr | .bool, _, _, _, _, hr | .str, _, _, _, _, hr | .unit, _, _, _, _, hr => ⟨hr.2, hr.1, rfl⟩
  | .pair a b, _, _, _, hf, ⟨c1, c2, X1, X2, h1, h2, h3, h4⟩ => by
    simp only [Ty.flat, Bool.and_eq_true] at hf
    obtain ⟨e1, r1⟩ := Rep.flat hf.1 h3
    obtain ⟨e2, r2⟩ := Rep.flat hf.2 h4
    exact ⟨by rw [h2, e1, e2]; rfl, c1, c2, [], [], h1, rfl, r1, r2⟩
  | .arr _ t, _, _, _, hf, ⟨h1, h2⟩ => by
    have hX := RL.noX (fun _ _ _ h => (Rep.flat (t := t) hf h).1) h2
    subst hX
    exact ⟨rfl, h1, RL.mono_mem (fun x c Y _ hY hr => by
      obtain ⟨e, r⟩ := Rep.flat (t := t) hf hr
      rw [e]; exact r) h2⟩
  | .sl o t, _, _, _, hf, ⟨a, c, h1, h2, hr⟩ => by
    simp only [Ty.flat, Bool.and_eq_true, Bool.not_eq_true'] at hf
    rcases hr with ⟨e1, e2, e3, h⟩ | ⟨b, of, arr, E, fr, X', e1, e2, e3, e4, hx⟩
    · exact ⟨h, a, c, h1, h2, .inl ⟨e1, e2, e3, rfl⟩⟩
    · simp only [hf.1, Bool.false_and, Bool.false_eq_true, if_false] at hx
      obtain ⟨hS, hX, hX'⟩ := hx
      subst hX'
      refine ⟨hX, a, c, h1, h2, .inr ⟨b, of, arr, E, fr, [], e1, e2, e3, ?_, ?_⟩⟩
      · exact RL.mono_mem (fun x c Y _ hY hr => by
          obtain ⟨e, r⟩ := Rep.flat (t := t) hf.2 hr
          rw [e]; exact r) e4
      · simp [hS]
  | .ptr _ _, none, _, _, _, hr => ⟨hr.2, hr.1, rfl⟩
  | .ptr o t, some _, _, _, hf, ⟨b, of, arr, E, fr, X', h1, h2, h2', h3, hx⟩ => by
    simp only [Ty.flat, Bool.and_eq_true, Bool.not_eq_true'] at hf
    simp only [hf.1, Bool.false_and, Bool.false_eq_true, if_false] at hx
    obtain ⟨hS, hX, hX'⟩ := hx
    subst hX'
    exact ⟨hX, b, of, arr, E, fr, [], h1, h2, h2', (Rep.flat (t := t) hf.2 h3).2, by simp [hS]⟩
  | .ref o t, _, _, _, hf, ⟨b, of, arr, E, fr, X', h1, h2, h2', h3, hx⟩ => by
    simp only [Ty.flat, Bool.and_eq_true, Bool.not_eq_true'] at hf
    simp only [hf.1, Bool.false_and, Bool.false_eq_true, if_false] at hx
    obtain ⟨hS, hX, hX'⟩ := hx
    subst hX'
    exact ⟨hX, b, of, arr, E, fr, [], h1, h2, h2', (Rep.flat (t := t) hf.2 h3).2, by simp [hS]⟩
  | .map o k v, _, _, _, hf, ⟨b, ents, clock, X', h1, h2, h3, hx⟩ => by
    simp only [Ty.flat, Bool.and_eq_true, Bool.not_eq_true'] at hf
    simp only [hf.1.1, Bool.false_and, Bool.false_eq_true, if_false] at hx
    obtain ⟨hS, hX, hX'⟩ := hx
    subst hX'
    exact ⟨hX, b, ents, clock, [], h1, h2, RM.mono_mem (fun x c hr => (Rep.flat (t := k) hf.1.2 hr).2) (fun x c Y _ hr => by
      obtain ⟨e, r⟩ := Rep.flat (t := v) hf.2 hr
      rw [e]; exact r) h3, by simp [hS]⟩

/-- another heap that agrees on what is read -/
theorem Rep.keep {h h' : Hp} {S S' : Set'} {l : Bool} (hS : ∀ b, S b → S' b ∧ h' b = h b) : ∀ {t : Ty} {x : den t} {cs X}, (∀ b ∈ X, h' b = h b) → Rep h S l t x cs X → Rep h' S' l t x cs X
  | .int _, _, _, _, _, hr | .bool, _, _, _, _, hr | .str, _, _, _, _, hr | .unit, _, _, _, _, hr => hr
  | .pair a b, _, _, _, hX, ⟨c1, c2, X1, X2, h1, h2, h3, h4⟩ =>
    ⟨c1, c2, X1, X2, h1, h2, Rep.keep hS (fun b hb => hX b (by simp [h2, hb])) h3, Rep.keep hS (fun b hb => hX b (by simp [h2, hb])) h4⟩
  | .arr _ t, _, _, _, hX, ⟨h1, h2⟩ => ⟨h1, RL.mono_mem (fun _ _ _ _ hY hr => Rep.keep hS (fun b hb => hX b (hY b hb)) hr) h2⟩
  | .sl o t, _, _, X, hX, ⟨a, c, h1, h2, hr⟩ => by
    refine ⟨a, c, h1, h2, ?_⟩
    rcases hr with h | ⟨b, of, arr, E, fr, X', e1, e2, e3, e4, hx⟩
    · exact .inl h
    · refine .inr ⟨b, of, arr, E, fr, X', e1, ?_, e3, ?_, ?_⟩
      · rw [← e2]
        by_cases ho : (o && !l) = true
        · simp only [ho, if_true] at hx
          exact hX b (by simp [hx.1])
        · simp only [ho, if_false] at hx
          exact (hS b hx.1).2
      · refine RL.mono_mem (fun _ _ Y _ hY hr => Rep.keep hS (fun b' hb => ?_) hr) e4
        by_cases ho : (o && !l) = true
        · simp only [ho, if_true] at hx
          exact hX b' (by simp [hx.1, hY b' hb])
        · simp only [ho, if_false] at hx
          have := hY b' hb
          simp [hx.2.2] at this
      · by_cases ho : (o && !l) = true
        · simp only [ho, if_true] at hx ⊢; exact hx
        · simp only [ho, if_false] at hx ⊢
          exact ⟨(hS b hx.1).1, hx.2⟩
  | .ptr _ _, none, _, _, _, hr => hr
  | .ptr o t, some _, _, X, hX, ⟨b, of, arr, E, fr, X', h1, h2, h2', h3, hx⟩ => by
    refine ⟨b, of, arr, E, fr, X', h1, ?_, h2', ?_, ?_⟩
    · rw [← h2]
      by_cases ho : (o && !l) = true
      · simp only [ho, if_true] at hx
        exact hX b (by simp [hx.1])
      · simp only [ho, if_false] at hx
        exact (hS b hx.1).2
    · refine Rep.keep hS (fun b' hb => ?_) h3
      by_cases ho : (o && !l) = true
      · simp only [ho, if_true] at hx
        exact hX b' (by simp [hx.1, hb])
      · simp only [ho, if_false] at hx
        simp [hx.2.2] at hb
    · by_cases ho : (o && !l) = true
      · simp only [ho, if_true] at hx ⊢; exact hx
      · simp only [ho, if_false] at hx ⊢
        exact ⟨(hS b hx.1).1, hx.2⟩
  | .ref o t, _, _, X, hX, ⟨b, of, arr, E, fr, X', h1, h2, h2', h3, hx⟩ => by
    refine ⟨b, of, arr, E, fr, X', h1, ?_, h2', ?_, ?_⟩
    · rw [← h2]
      by_cases ho : (o && !l) = true
      · simp only [ho, if_true] at hx
        exact hX b (by simp [hx.1])
      · simp only [ho, if_false] at hx
        exact (hS b hx.1).2
    · refine Rep.keep hS (fun b' hb => ?_) h3
      by_cases ho : (o && !l) = true
      · simp only [ho, if_true] at hx
        exact hX b' (by simp [hx.1, hb])
      · simp only [ho, if_false] at hx
        simp [hx.2.2] at hb
    · by_cases ho : (o && !l) = true
      · simp only [ho, if_true] at hx ⊢; exact hx
      · simp only [ho, if_false] at hx ⊢
        exact ⟨(hS b hx.1).1, hx.2⟩
  | .map o k v, _, _, X, hX, ⟨b, ents, clock, X', h1, h2, h3, hx⟩ => by
    have hsub : ∀ b' ∈ X', h' b' = h b' := by
      intro b' hb
      by_cases ho : (o && !l) = true
      · simp only [ho, if_true] at hx
        exact hX b' (by simp [hx, hb])
      · simp only [ho, if_false] at hx
        simp [hx.2.2] at hb
    refine ⟨b, ents, clock, X', h1, ?_, RM.mono_mem (fun _ _ hr => Rep.keep hS (by simp) hr) (fun _ _ Y hY hr => Rep.keep hS (fun b' hb => hsub b' (hY b' hb)) hr) h3, ?_⟩
    · rw [← h2]
      by_cases ho : (o && !l) = true
      · simp only [ho, if_true] at hx
        exact hX b (by simp [hx])
      · simp only [ho, if_false] at hx
        exact (hS b hx.1).2
    · by_cases ho : (o && !l) = true
      · simp only [ho, if_true] at hx ⊢; exact hx
      · simp only [ho, if_false] at hx ⊢
        exact ⟨(hS b hx.1).1, hx.2⟩

end Go.Proofs.Ytnffdeokhcojfaa.E

namespace Go.Proofs.Ytnffdeokhcojfaa.E
open Go
set_option linter.unusedSimpArgs false
set_option linter.unusedVariables false

/-! the evaluator -/

inductive Sel
  | f (i : Nat)
  | i (n : Nat)

structure Pt where
  o : Nat
  t : Ty
  a : den t

/-- what is known of a slot -/
inductive SV
  | x
  | np
  | v (len : Bool) (t : Ty) (a : den t)
  | q (len : Bool) (t : Ty) (a : den t)
  | nl
  | p (r : Nat) (s : List Sel)
  | sf (r : Nat)
  | s (r : Nat) (lo n : Nat)
  | tup (l : List SV)

/-- memory of the call's own -/
inductive Root
  | box (len : Bool) (t : Ty) (a : den t)
  | arr (len : Bool) (t : Ty) (xs : List (den t))

/-- slots (the latest first), what hangs on a test (slot, test's slot, wanted), roots, how many slots -/
structure St where
  t : List (Nat × SV)
  c : List (Nat × Nat × Bool × SV)
  r : List (Nat × Root)
  n : Nat

def look : List (Nat × Root) → Nat → Option Root
  | [], _ => none
  | (k, v) :: l, n => match Nat.beq k n with
    | true => some v
    | false => look l n

def del : List (Nat × Root) → Nat → List (Nat × Root)
  | [], _ => []
  | (k, v) :: l, n => match Nat.beq k n with
    | true => del l n
    | false => (k, v) :: del l n

def upd : List (Nat × Root) → Nat → Root → List (Nat × Root)
  | [], _, _ => []
  | (k, v) :: l, n, u => match Nat.beq k n with
    | true => (k, u) :: l
    | false => (k, v) :: upd l n u

def SV.uses0 (r : Nat) : SV → Bool
  | .p k _ => Nat.beq k r
  | .sf k => Nat.beq k r
  | .s k _ _ => Nat.beq k r
  | .tup _ => true
  | _ => false

def anyUses0 (r : Nat) : List SV → Bool
  | [] => false
  | v :: l => v.uses0 r || anyUses0 r l

def SV.uses (r : Nat) : SV → Bool
  | .tup l => anyUses0 r l
  | sv => sv.uses0 r

def mapT (f : SV → SV) : List (Nat × SV) → List (Nat × SV)
  | [] => []
  | (k, v) :: l => (k, f v) :: mapT f l

def killF (r : Nat) (sv : SV) : SV := match sv.uses r with | true => .x | false => sv

def St.kill (σ : St) (r : Nat) : St := { t := mapT (killF r) σ.t, c := [], r := del σ.r r, n := σ.n }

/-- a new root, named after the slot that it comes to -/
def St.new (σ : St) (r : Nat) (ρ : Root) : St := { t := mapT (killF r) σ.t, c := [], r := (r, ρ) :: del σ.r r, n := σ.n }

def find : List (Nat × SV) → Nat → SV
  | [], _ => .x
  | (k, v) :: l, n => match Nat.beq k n with
    | true => v
    | false => find l n

/-- what hangs on a slot's test is gone when the slot is written -/
def unhang (d : Nat) : List (Nat × Nat × Bool × SV) → List (Nat × Nat × Bool × SV)
  | [] => []
  | (k, e, w, v) :: l => match Nat.beq k d || Nat.beq e d with
    | true => unhang d l
    | false => (k, e, w, v) :: unhang d l

def findC : List (Nat × Nat × Bool × SV) → Nat → Nat → Bool → SV
  | [], _, _, _ => .x
  | (k, e, w, v) :: l, n, d, u => match Nat.beq k n && Nat.beq e d && boolEq w u with
    | true => v
    | false => findC l n d u

def SV.force {α : Type} (sv : SV) (k : SV → α) : α :=
  match sv with
  | .x => k .x
  | .np => k .np
  | .v l t a => k (.v l t a)
  | .q l t a => k (.q l t a)
  | .nl => k .nl
  | .p r z => k (.p r z)
  | .sf r => k (.sf r)
  | .s r lo n => k (.s r lo n)
  | .tup l => k (.tup l)

def St.put (σ : St) (d : Nat) (sv : SV) : St := { t := (d, sv) :: σ.t, c := unhang d σ.c, r := σ.r, n := σ.n }

/-- the slot's value hangs on a test -/
def St.putC (σ : St) (d e : Nat) (w : Bool) (sv : SV) : St := { t := (d, .x) :: σ.t, c := (d, e, w, sv) :: unhang d σ.c, r := σ.r, n := σ.n }

def putK {α : Type} (σ : St) (dst : Option Nat) (sv : SV) (K : St → Option α) : Option α :=
  match dst with
  | none => K σ
  | some d => match Nat.blt d σ.n with
    | true => sv.force fun sv => K (σ.put d sv)
    | false => none

def svConst : Value → SV
  | .bool b => .v false .bool b
  | .int k n => .v false (.int k) n
  | .string s => .v false .str s.data.toList
  | .slice none 0 0 => .nl
  | .pointer none => .np
  | _ => .x

/-- a slot's value under a test -/
def St.at (σ : St) (g : Option (Nat × Bool)) (i : Nat) : SV :=
  match find σ.t i with
  | .x => match g with
    | some (d, w) => findC σ.c i d w
    | none => .x
  | sv => sv

def St.arg (σ : St) (g : Option (Nat × Bool)) : Operand → SV
  | .tmp i => σ.at g i
  | .const c => svConst c
  | _ => .x

def mkv (l : Bool) (t : Ty) (a : den t) : SV := .v (l && !t.plain) t a

/-! selections -/

def fldGet : (t : Ty) → den t → Nat → Option Pt
  | .pair a _, x, 0 => some ⟨0, a, x.1⟩
  | .pair a b, x, n + 1 => match fldGet b x.2 n with
    | some ⟨o, u, r⟩ => some ⟨a.size + o, u, r⟩
    | none => none
  | _, _, _ => none

def cast? {t : Ty} (u : Ty) (a : den t) : Option (den u) :=
  match h : tyEq t u with
  | true => some (tyEq_iff h ▸ a)
  | false => none

def fldSet : (t : Ty) → den t → Nat → ((u : Ty) → den u → Option (den u)) → Option (den t)
  | .pair a _, x, 0, f => match f a x.1 with | some y => some (y, x.2) | none => none
  | .pair a b, x, n + 1, f => match fldSet b x.2 n f with | some y => some (x.1, y) | none => none
  | _, _, _, _ => none

/-- the offset, the type and the value of a part -/
def selGet : List Sel → (t : Ty) → den t → Option Pt
  | [], t, x => some ⟨0, t, x⟩
  | .f i :: s, t, x => match fldGet t x i with
    | some ⟨o, u, y⟩ => match selGet s u y with
      | some ⟨o', w, r⟩ => some ⟨o + o', w, r⟩
      | none => none
    | none => none
  | .i n :: s, .arr _ t, x => match selGet s t (List.getD x n (dflt t)) with
      | some ⟨o', w, r⟩ => some ⟨n * t.size + o', w, r⟩
      | none => none
  | _, _, _ => none

def selSet : List Sel → (u : Ty) → den u → (t : Ty) → den t → Option (den t)
  | [], u, y, t, _ => cast? t y
  | .f i :: s, u, y, t, x => fldSet t x i (fun a z => selSet s u y a z)
  | .i n :: s, u, y, .arr _ t, x => match selSet s u y t (List.getD x n (dflt t)) with
      | some z => some (List.set x n z)
      | none => none
  | _, _, _, _, _ => none

def Root.get (s : List Sel) : Root → Option (Bool × Pt)
  | .box l t a => match selGet s t a with | some r => some (l, r) | none => none
  | .arr l t xs => match s with
    | .i n :: s => match selGet s t (xs.getD n (dflt t)) with | some ⟨o, u, r⟩ => some (l, ⟨n * t.size + o, u, r⟩) | none => none
    | _ => none

def Root.set (s : List Sel) (u : Ty) (y : den u) : Root → Option Root
  | .box l t a => match selSet s u y t a with | some z => some (.box l t z) | none => none
  | .arr l t xs => match s with
    | .i n :: s => match selSet s u y t (xs.getD n (dflt t)) with | some z => some (.arr l t (xs.set n z)) | none => none
    | _ => none

def Root.len : Root → Bool
  | .box l _ _ => l
  | .arr l _ _ => l

def nthF : List Field → Nat → Option Field
  | [], _ => none
  | f :: _, 0 => some f
  | _ :: l, n + 1 => nthF l n

/-! checks against the program's table of types -/

structure TI where
  d : TypeDesc
  size : Nat
  bytes : Nat
  zero : List Value

abbrev Tab := TypeId → Option TI

def und (P : Tab) (t : TypeId) : Option TypeDesc := match P t with | some i => some i.d | none => none

def szB (P : Tab) (t : TypeId) (n : Nat) : Bool := match P t with | some i => Nat.beq i.size n | none => false

def aggB (P : Tab) (t : TypeId) (b : Bool) : Bool :=
  match und P t with
  | some (.struct _) | some (.array _ _) => b
  | some _ => !b
  | none => false

def fits (P : Tab) (t : TypeId) (τ : Ty) : Bool := szB P t τ.size && aggB P t τ.isAgg

/-- a branch; a sequence -/
def br {R : Type} (c : Bool) (a b : Option R) : Option R := cond c a b
def bd {A R : Type} (o : Option A) (f : A → Option R) : Option R := o.bind f

def inB (i : Int) (n : Nat) : Bool := decide (0 ≤ i) && decide (i < n)
def leB (i : Int) (n : Nat) : Bool := decide (0 ≤ i) && decide (i ≤ n)
def makeB (n c : Int) (b : Nat) : Bool := decide (0 ≤ n) && decide (n ≤ c) && decide (c * b ≤ 140737488355328)

theorem inB_iff {i : Int} {n : Nat} : inB i n = true ↔ 0 ≤ i ∧ i < n := by simp [inB]
theorem leB_iff {i : Int} {n : Nat} : leB i n = true ↔ 0 ≤ i ∧ i ≤ n := by simp [leB]
theorem makeB_iff {n c : Int} {b : Nat} : makeB n c b = true ↔ 0 ≤ n ∧ n ≤ c ∧ c * b ≤ 140737488355328 := by simp [makeB, and_assoc]

/-! the operations: a condition, what comes to the slot, the state behind -/

abbrev OpR := Option (Bool × SV × St)

def bin (op : BinOp) (k : IntKind) (a b : Int) : Option (Bool × SV) :=
  match op with
  | .add => some (true, .v false (.int k) (k.wrap (a + b)))
  | .sub => some (true, .v false (.int k) (k.wrap (a - b)))
  | .mul => some (true, .v false (.int k) (k.wrap (a * b)))
  | .quo => some (!(b == 0), .v false (.int k) (k.wrap (a.tdiv b)))
  | .rem => some (!(b == 0), .v false (.int k) (a.tmod b))
  | .and => some (true, .v false (.int k) (k.wrap (BitVec.ofInt k.bits a &&& BitVec.ofInt k.bits b).toNat))
  | .or => some (true, .v false (.int k) (k.wrap (BitVec.ofInt k.bits a ||| BitVec.ofInt k.bits b).toNat))
  | .xor => some (true, .v false (.int k) (k.wrap (BitVec.ofInt k.bits a ^^^ BitVec.ofInt k.bits b).toNat))
  | .andNot => some (true, .v false (.int k) (k.wrap (BitVec.ofInt k.bits a &&& ~~~(BitVec.ofInt k.bits b)).toNat))
  | .shl => some (decide (0 ≤ b), .v false (.int k) (k.wrap (a * 2 ^ (min b.toNat k.bits))))
  | .shr => some (decide (0 ≤ b), .v false (.int k) (a.fdiv (2 ^ (min b.toNat k.bits))))
  | .eql => some (true, .v false .bool (a == b))
  | .neq => some (true, .v false .bool (a != b))
  | .lss => some (true, .v false .bool (decide (a < b)))
  | .leq => some (true, .v false .bool (decide (a ≤ b)))
  | .gtr => some (true, .v false .bool (decide (a > b)))
  | .geq => some (true, .v false .bool (decide (a ≥ b)))

def isShift : BinOp → Bool
  | .shl | .shr => true
  | _ => false

def binStr (op : BinOp) (a b : List UInt8) : Option (Bool × SV) :=
  match op with
  | .add => some (decide (a.length + b.length ≤ 9223372036854775807), .v false .str (a ++ b))
  | .eql => some (true, .v false .bool (a == b))
  | .neq => some (true, .v false .bool (!(a == b)))
  | .lss => some (true, .v false .bool (Op.bytesLess a b))
  | .leq => some (true, .v false .bool (Op.bytesLess a b || a == b))
  | .gtr => some (true, .v false .bool (!(Op.bytesLess a b || a == b)))
  | .geq => some (true, .v false .bool (!Op.bytesLess a b))
  | _ => none

def opBin (P : Tab) (op : BinOp) (t : TypeId) (a b : SV) (σ : St) : OpR :=
  match a, b with
  | .v _ (.int k) n, .v _ (.int j) m => match isShift op || kindEq k j with
    | true => match bin op k n m with | some (c, s) => some (c, s, σ) | none => none
    | false => none
  | .v _ .str n, .v _ .str m => match binStr op n m with | some (c, s) => some (c, s, σ) | none => none
  | .v _ .bool n, .v _ .bool m => match und P t, op with
    | some .bool, .eql => some (true, .v false .bool (n == m), σ)
    | some .bool, .neq => some (true, .v false .bool (!(n == m)), σ)
    | _, _ => none
  | .p _ _, .np | .q _ _ _, .np => match und P t, op with
    | some (.pointer _), .eql => some (true, .v false .bool false, σ)
    | some (.pointer _), .neq => some (true, .v false .bool true, σ)
    | _, _ => none
  | _, _ => none

def opUn (op : UnOp) (a : SV) (σ : St) : OpR :=
  match op, a with
  | .not, .v _ .bool b => some (true, .v false .bool (!b), σ)
  | .neg, .v _ (.int k) n => some (true, .v false (.int k) (k.wrap (0 - n)), σ)
  | .xor, .v _ (.int k) n => some (true, .v false (.int k) (k.wrap (BitVec.ofInt k.bits (if k.signed then -1 else k.max) ^^^ BitVec.ofInt k.bits n).toNat), σ)
  | _, _ => none

def opPick (c a b : SV) (σ : St) : OpR :=
  match c, a, b with
  | .v _ .bool g, .v _ .bool a, .v _ .bool b => some (true, .v false .bool (bif g then a else b), σ)
  | .v _ .bool g, a, b => match g with | true => some (true, a, σ) | false => some (true, b, σ)
  | _, _, _ => none

def opLoad (P : Tab) (t : TypeId) (a : SV) (σ : St) : OpR :=
  match a with
  | .q l τ x => match fits P t τ && τ.flat with | true => some (true, mkv l τ x, σ) | false => none
  | .p r s => match look σ.r r with
    | some ρ => match ρ.get s with
      | some (l, ⟨_, τ, x⟩) => match fits P t τ && τ.flat with | true => some (true, mkv l τ x, σ) | false => none
      | none => none
    | none => none
  | _ => none

/-- a root's elements are from now on shared: nobody writes there any more -/
def frz (r : Nat) (l : Bool) (t : Ty) (xs : List (den t)) : SV → SV
  | .sf k => match Nat.beq k r with | true => .v l (.sl false t) xs | false => .sf k
  | .s k lo n => match Nat.beq k r with | true => .v l (.sl false t) ((xs.drop lo).take n) | false => .s k lo n
  | sv => match sv.uses r with | true => .x | false => sv

def St.frz (σ : St) (r : Nat) : St :=
  match look σ.r r with
  | some (.arr l t xs) => match t.flat with
    | true => { t := mapT (E.frz r l t xs) σ.t, c := [], r := del σ.r r, n := σ.n }
    | false => σ
  | _ => σ

def SV.root : SV → Option Nat
  | .sf r => some r
  | .s r _ _ => some r
  | _ => none

/-- the value that is handed on, shared; slices of the call's own are frozen -/
def sharedV (σ : St) (sv : SV) : SV × St :=
  match sv.root with
  | some r => match look σ.r r with
    | some (.arr l t xs) => match t.flat with
      | true => (frz r l t xs sv, σ.frz r)
      | false => (.x, σ)
    | _ => (.x, σ)
  | none => (sv, σ)

/-- as a value of a type -/
def toV (len : Bool) (τ : Ty) : SV → Option (den τ)
  | .v l t a => match !l || len with
    | true => cast? τ a
    | false => none
  | .nl => match τ with | .sl _ _ => some [] | _ => none
  | .np => match τ with | .ptr _ _ => some none | _ => none
  | _ => none

def opStore (P : Tab) (t : TypeId) (a v : SV) (σ : St) : OpR :=
  match a with
  | .p r s => match sharedV σ v with
    | (v, σ) => match look σ.r r with
      | some ρ => match ρ.get s with
        | some (l, ⟨_, τ, _⟩) => match fits P t τ && τ.flat with
          | true => match toV l τ v with
            | some y => match ρ.set s τ y with
              | some ρ' => some (true, .x, { σ with r := upd σ.r r ρ' })
              | none => none
            | none => none
          | false => none
        | none => none
      | none => none
  | _ => none

def opFld (P : Tab) (t : TypeId) (a : SV) (f : Nat) (σ : St) : OpR :=
  match und P t with
  | some (.struct fs) => match nthF fs.toList f with
    | some fd => match a with
      | .q l τ x => match fldGet τ x f with
        | some ⟨o, u, y⟩ => match Nat.beq fd.offset o && szB P fd.type u.size && !(Nat.beq u.size 0) with
          | true => some (true, .q l u y, σ)
          | false => none
        | none => none
      | .p r s => match look σ.r r with
        | some ρ => match ρ.get s with
          | some (_, ⟨_, τ, x⟩) => match fldGet τ x f with
            | some ⟨o, u, _⟩ => match Nat.beq fd.offset o && szB P fd.type u.size && !(Nat.beq u.size 0) with
              | true => some (true, .p r (s ++ [.f f]), σ)
              | false => none
            | none => none
          | none => none
        | none => none
      | _ => none
    | none => none
  | _ => none

def opIdxA (P : Tab) (t : TypeId) (a i : SV) (σ : St) : OpR :=
  match i with
  | .v _ (.int _) i => match und P t with
    | some (.slice e) => match a with
      | .v l (.sl _ u) xs => match szB P e u.size && !(Nat.beq u.size 0) with
        | true => some (inB i xs.length, .q l u (xs.getD i.toNat (dflt u)), σ)
        | false => none
      | .sf r => match look σ.r r with
        | some (.arr _ u xs) => match szB P e u.size && !(Nat.beq u.size 0) with
          | true => some (inB i xs.length, .p r [.i i.toNat], σ)
          | false => none
        | _ => none
      | .s r lo n => match look σ.r r with
        | some (.arr _ u _) => match szB P e u.size && !(Nat.beq u.size 0) with
          | true => some (inB i n, .p r [.i (lo + i.toNat)], σ)
          | false => none
        | _ => none
      | .nl => some (false, .x, σ)
      | _ => none
    | some (.array n e) => match a with
      | .p r s => match look σ.r r with
        | some ρ => match ρ.get s with
          | some (_, ⟨_, .arr m u, _⟩) => match szB P e u.size && !(Nat.beq u.size 0) && Nat.beq n m with
            | true => some (inB i n, .p r (s ++ [.i i.toNat]), σ)
            | false => none
          | _ => none
        | none => none
      | _ => none
    | _ => none
  | _ => none

def opIdx (P : Tab) (t : TypeId) (a i : SV) (σ : St) : OpR :=
  match i with
  | .v _ (.int _) i => match und P t, a with
    | some .string, .v _ .str s => some (inB i s.length, .v false (.int .u8) ((s.getD i.toNat 0).toNat : Int), σ)
    | some (.array n e), .v l (.arr m u) xs => match fits P e u && Nat.beq n m with
      | true => some (inB i n, mkv l u (xs.getD i.toNat (dflt u)), σ)
      | false => none
    | _, _ => none
  | _ => none

/-- the bounds of a slice expression over n elements -/
def bndM (n : Nat) : Option SV → Option (Bool × Nat)
  | none => some (true, n)
  | some (.v _ (.int _) i) => some (leB i n, Int.toNat i)
  | _ => none

def bndH (n m : Nat) : Option SV → Bool → Option (Bool × Nat)
  | none, false => some (true, n)
  | some (.v _ (.int _) i), _ => some (leB i m, Int.toNat i)
  | _, _ => none

def bndL (h : Nat) : Option SV → Option (Bool × Nat)
  | none => some (true, 0)
  | some (.v _ (.int _) i) => some (leB i h, Int.toNat i)
  | _ => none

def bnd (n : Nat) (lo hi mx : Option SV) : Option (Bool × Nat × Nat) :=
  match bndM n mx with
  | none => none
  | some (cm, m) => match bndH n m hi mx.isSome with
    | none => none
    | some (ch, h) => match bndL h lo with
      | none => none
      | some (cl, l) => some (cm && ch && cl, l, h)

def cutL {α : Type} (xs : List α) (lo hi mx : Option SV) (l h : Nat) : List α :=
  match lo, hi with
  | none, none => xs
  | none, some _ => xs.take h
  | some _, none => xs.drop l
  | some _, some _ => (xs.take h).drop l

def opSlice (P : Tab) (t : TypeId) (a : SV) (lo hi mx : Option SV) (σ : St) : OpR :=
  match und P t with
  | some .string => match a, mx with
    | .v _ .str s, none => match bnd s.length lo hi none with
      | some (c, l, h) => some (c, .v false .str (cutL s lo hi mx l h), σ)
      | none => none
    | _, _ => none
  | some (.slice e) => match a with
    | .v len (.sl o u) xs => match szB P e u.size && !(Nat.beq u.size 0) with
      | true => match bnd xs.length lo hi mx with
        | some (c, l, h) => some (c, .v len (.sl o u) (cutL xs lo hi mx l h), σ)
        | none => none
      | false => none
    | .sf r => match look σ.r r with
      | some (.arr _ u xs) => match szB P e u.size && !(Nat.beq u.size 0) with
        | true => match bnd xs.length lo hi mx with
          | some (c, l, h) => some (c, .s r l (h - l), σ)
          | none => none
        | false => none
      | _ => none
    | .s r b n => match look σ.r r with
      | some (.arr _ u _) => match szB P e u.size && !(Nat.beq u.size 0) with
        | true => match bnd n lo hi mx with
          | some (c, l, h) => some (c, .s r (b + l) (h - l), σ)
          | none => none
        | false => none
      | _ => none
    | .nl => match P e with
      | some _ => match bnd 0 lo hi mx with
        | some (c, _, _) => some (c, .nl, σ)
        | none => none
      | none => none
    | _ => none
  | _ => none

/-- sliced with nought for its room: an empty slice without room -/
def opSlice0 (P : Tab) (t : TypeId) (a : SV) (lo hi mx : Option SV) (σ : St) : OpR :=
  match und P t, opSlice P t a lo hi mx σ with
  | some (.slice _), some (c, _, σ) => some (c, .nl, σ)
  | _, _ => none

def isZero : Option Operand → Bool
  | some (.const (.int _ (.ofNat 0))) => true
  | _ => false

def opLen (P : Tab) (t : TypeId) (a : SV) (σ : St) : OpR :=
  match und P t with
  | some .string => match a with | .v _ .str s => some (true, .v false (.int .i64) (s.length : Int), σ) | _ => none
  | some (.array n _) => some (true, .v false (.int .i64) (n : Int), σ)
  | some (.slice _) => match a with
    | .v _ (.sl _ _) xs => some (true, .v false (.int .i64) (xs.length : Int), σ)
    | .nl => some (true, .v false (.int .i64) 0, σ)
    | .sf r => match look σ.r r with | some (.arr _ _ xs) => some (true, .v false (.int .i64) (xs.length : Int), σ) | _ => none
    | .s r _ n => match look σ.r r with | some (.arr _ _ _) => some (true, .v false (.int .i64) (n : Int), σ) | _ => none
    | _ => none
  | _ => none

/-- a slice's elements, as they are now -/
def elems (σ : St) (u : Ty) : SV → Option (Bool × List (den u))
  | .v l (.sl _ t) xs => match cast? (t := .sl false t) (.sl false u) xs with | some ys => some (l, ys) | none => none
  | .nl => some (false, [])
  | .sf r => match look σ.r r with
    | some (.arr l t xs) => match cast? (t := .sl false t) (.sl false u) xs with | some ys => some (l, ys) | none => none
    | _ => none
  | .s r lo n => match look σ.r r with
    | some (.arr l t xs) => match cast? (t := .sl false t) (.sl false u) xs with | some ys => some (l, (ys.drop lo).take n) | none => none
    | _ => none
  | .v l .str s => match cast? (t := .sl false (.int .u8)) (.sl false u) (s.map fun c => (c.toNat : Int)) with | some ys => some (false, ys) | none => none
  | _ => none

def zlenB (P : Tab) (t : TypeId) (n : Nat) : Bool := match P t with | some i => Nat.beq i.zero.length n | none => false

def bytesB (P : Tab) (t : TypeId) : Nat := match P t with | some i => i.bytes | none => 0

/-- append: what was there is the result's own now -/
def opAppend (P : Tab) (dst : Option Nat) (t t2 : TypeId) (u : Ty) (a z : SV) (σ : St) : OpR :=
  match dst, und P t, und P t2 with
  | some d, some (.slice e), some k2 => match (match k2 with | .slice _ | .string => true | _ => false) && szB P e u.size && !(Nat.beq u.size 0) && u.flat && Nat.ble 1 (bytesB P e) && zlenB P e u.size with
    | true => match (match a with | .nl | .sf _ | .s _ _ _ => true | _ => false) with
      | true => match elems σ u a, elems σ u z with
        | some (la, xs), some (lx, ys) =>
          let σ' := match a.root with | some r => σ.kill r | none => σ
          some (decide ((xs.length + ys.length) * bytesB P e ≤ 140737488355328), .sf d, σ'.new d (.arr ((la || lx) && !u.plain) u (xs ++ ys)))
        | _, _ => none
      | false => none
    | false => none
  | _, _, _ => none

/-- copy -/
def opCopy (P : Tab) (t : TypeId) (a z : SV) (σ : St) : OpR :=
  match und P t with
  | some (.slice e) => match a.root with
    | some r => match look σ.r r with
      | some (.arr l u xs) => match szB P e u.size && !(Nat.beq u.size 0) && u.flat with
        | true => match elems σ u z with
          | some (lx, ys) => match !lx || l with
            | true => match a with
              | .sf _ => some (true, .v false (.int .i64) ((min ys.length xs.length : Nat) : Int), { σ with r := upd σ.r r (.arr l u (ys.take xs.length ++ xs.drop (min ys.length xs.length))) })
              | .s _ lo n => some (true, .v false (.int .i64) ((min ys.length n : Nat) : Int), { σ with r := upd σ.r r (.arr l u (xs.take lo ++ ys.take n ++ xs.drop (lo + min ys.length n))) })
              | _ => none
            | false => none
          | none => none
        | false => none
      | _ => none
    | none => none
  | _ => none

def opConv (P : Tab) (dst : Option Nat) (s t : TypeId) (a : SV) (σ : St) : OpR :=
  match und P s, und P t with
  | some _, some (.int k) => match a with | .v _ (.int _) n => some (true, .v false (.int k) (k.wrap n), σ) | _ => none
  | some .string, some .string => match a with | .v l .str x => some (true, .v l .str x, σ) | _ => none
  | some .string, some (.slice e) => match a, und P e, dst with
    | .v _ .str x, some (.int .u8), some d => some (true, .sf d, σ.new d (.arr false (.int .u8) (x.map fun c => (c.toNat : Int))))
    | _, _, _ => none
  | some (.slice e), some .string => match und P e with
    | some (.int .u8) => match elems σ (.int .u8) a with
      | some (_, xs) => some (true, .v false .str (xs.map fun n => UInt8.ofNat n.toNat), σ)
      | none => none
    | _ => none
  | some (.slice e), some (.slice _) => match Nat.beq s t, und P e, a with
    | true, some (.int .u8), .sf r => match look σ.r r with
      | some (.arr _ _ (_ :: _)) => some (true, .sf r, σ)
      | _ => none
    | _, _, _ => none
  | _, _ => none

def vals (σ : St) (u : Ty) (len : Bool) : List SV → Option (List (den u))
  | [] => some []
  | v :: l => match toV len u v, vals σ u len l with | some a, some r => some (a :: r) | _, _ => none

def anyLen : List SV → Bool
  | [] => false
  | .v l _ _ :: r => l || anyLen r
  | _ :: r => anyLen r

/-- the cells of a zero value -/
def zeroC : Ty → List Value
  | .int k => [.int k 0]
  | .bool => [.bool false]
  | .str => [.string ⟨⟨[]⟩⟩]
  | .unit => []
  | .pair a b => zeroC a ++ zeroC b
  | .arr n t => (List.replicate n (zeroC t)).flatten
  | .sl _ _ => [.slice none 0 0]
  | .ptr _ _ => [.pointer none]
  | _ => [undef]

def zOk : Ty → Bool
  | .ref _ _ | .map _ _ _ => false
  | .pair a b => zOk a && zOk b
  | .arr _ t => zOk t
  | _ => true

def veq : Value → Value → Bool
  | .int k n, .int j m => kindEq k j && decide (n = m)
  | .bool a, .bool b => a == b
  | .string a, .string b => a.data.toList.isEmpty && b.data.toList.isEmpty
  | .slice none a b, .slice none c d => Nat.beq a c && Nat.beq b d
  | .pointer none, .pointer none => true
  | _, _ => false

def veqL : List Value → List Value → Bool
  | [], [] => true
  | a :: x, b :: y => veq a b && veqL x y
  | _, _ => false

def zeroB (P : Tab) (t : TypeId) (τ : Ty) : Bool :=
  match P t with
  | some i => veqL i.zero (zeroC τ) && zOk τ
  | none => false

def opAlloc (P : Tab) (dst : Option Nat) (t : TypeId) (τ : Ty) (σ : St) : OpR :=
  match dst with
  | some d => match zeroB P t τ && τ.flat with
    | true => some (true, .p d [], σ.new d (.box false τ (dflt τ)))
    | false => none
  | none => none

def opBox (dst : Option Nat) (a : SV) (σ : St) : OpR :=
  match dst, sharedV σ a with
  | some d, (.v l τ x, σ) => match τ.flat with
    | true => some (true, .p d [], σ.new d (.box l τ x))
    | false => none
  | _, _ => none

def opMake (P : Tab) (dst : Option Nat) (t : TypeId) (u : Ty) (n c : SV) (σ : St) : OpR :=
  match dst, und P t, n, c with
  | some d, some (.slice e), .v _ (.int _) n, .v _ (.int _) c => match szB P e u.size && !(Nat.beq u.size 0) && zeroB P e u && u.flat && Nat.ble 1 (bytesB P e) with
    | true => some (makeB n c (bytesB P e), .sf d, σ.new d (.arr false u (List.replicate n.toNat (dflt u))))
    | false => none
  | _, _, _, _ => none

/-- a slice of so many elements, all of them told -/
def told : Nat → List (Nat × SV) → Option (List SV)
  | _, [] => some []
  | k, (i, v) :: l => match Nat.beq i k with
    | true => match told (k + 1) l with | some r => some (v :: r) | none => none
    | false => none

def opMkSl (P : Tab) (dst : Option Nat) (t : TypeId) (u : Ty) (n : Nat) (ps : List (Nat × SV)) (σ : St) : OpR :=
  match dst, und P t, told 0 ps with
  | some d, some (.slice e), some vs => match szB P e u.size && !(Nat.beq u.size 0) && u.flat && Nat.beq vs.length n && zeroB P e u && Nat.ble (n * u.size) 1000 with
    | true => match vals σ u (anyLen vs) vs with
      | some xs => some (true, .sf d, σ.new d (.arr (anyLen vs) u xs))
      | none => none
    | false => none
  | _, _, _ => none

/-- a struct's fields, told ones and noughts -/
def fillF (len : Bool) : (t : Ty) → Nat → List (Nat × SV) → Option (den t)
  | .unit, _, [] => some ()
  | .pair a b, k, (i, v) :: l => match Nat.beq i k with
    | true => match toV len a v, fillF len b (k + 1) l with | some x, some r => some (x, r) | _, _ => none
    | false => match fillF len b (k + 1) ((i, v) :: l) with | some r => some (dflt a, r) | none => none
  | .pair a b, k, [] => match fillF len b (k + 1) [] with | some r => some (dflt a, r) | none => none
  | _, _, _ => none

/-- do a struct type's fields lie as the pairs do? -/
def lie (P : Tab) : Ty → List Field → Nat → Bool
  | .unit, [], _ => true
  | .pair a b, f :: fs, o => Nat.beq f.offset o && szB P f.type a.size && lie P b fs (o + a.size)
  | _, _, _ => false

def sharedL (g : Option (Nat × Bool)) (σ : St) : List (Nat × Operand) → List (Nat × SV) × St
  | [] => ([], σ)
  | (i, x) :: l => match sharedV σ (σ.arg g x) with
    | (v, σ') => match sharedL g σ' l with
      | (l, σ'') => ((i, v) :: l, σ'')

def anyLenP : List (Nat × SV) → Bool
  | [] => false
  | (_, .v l _ _) :: r => l || anyLenP r
  | _ :: r => anyLenP r

def opBuild (P : Tab) (t : TypeId) (τ : Ty) (g : Option (Nat × Bool)) (ps : List (Nat × Operand)) (σ : St) : OpR :=
  match und P t with
  | some (.struct fs) => match zeroB P t τ && τ.flat && τ.isAgg && lie P τ fs.toList 0 with
    | true => match sharedL g σ ps with
      | (ps, σ) => match fillF (anyLenP ps) τ 0 ps with
        | some x => some (true, .v (anyLenP ps) τ x, σ)
        | none => none
    | false => none
  | _ => none

def opNil (a : SV) (σ : St) : OpR :=
  match a with
  | .p r s => some (true, .p r s, σ)
  | .q l τ x => some (true, .q l τ x, σ)
  | .v l (.ptr _ τ) x => some (x.isSome, .q l τ (x.getD (dflt τ)), σ)
  | _ => none

def nthS : List SV → Nat → SV
  | [], _ => .x
  | v :: _, 0 => v
  | _ :: l, n + 1 => nthS l n

def opExtract (a : SV) (i : Nat) (σ : St) : OpR :=
  match a with
  | .tup l => match nthS l i with
    | .x => none
    | v => some (true, v, σ)
  | _ => none

def opField (P : Tab) (t : TypeId) (a : SV) (f : Nat) (σ : St) : OpR :=
  match und P t with
  | some (.struct fs) => match nthF fs.toList f with
    | some fd => match a with
      | .v l τ x => match fldGet τ x f with
        | some ⟨o, u, y⟩ => match Nat.beq fd.offset o && fits P fd.type u && τ.isAgg with
          | true => some (true, mkv l u y, σ)
          | false => none
        | none => none
      | _ => none
    | none => none
  | _ => none

def maxL : Int → List SV → IntKind → Option Int
  | a, [], _ => some a
  | a, .v _ (.int j) b :: l, k => match kindEq j k with | true => maxL (if b > a then b else a) l k | false => none
  | _, _, _ => none

def minL : Int → List SV → IntKind → Option Int
  | a, [], _ => some a
  | a, .v _ (.int j) b :: l, k => match kindEq j k with | true => minL (if b < a then b else a) l k | false => none
  | _, _, _ => none

end Go.Proofs.Ytnffdeokhcojfaa.E

namespace Go.Proofs.Ytnffdeokhcojfaa.E
open Go
set_option linter.unusedSimpArgs false
set_option linter.unusedVariables false

@[reducible] def denL : List Ty → Type
  | [] => Unit
  | t :: l => den t × denL l

def appN : List Nat → List Nat → List Nat
  | [], l => l
  | a :: r, l => a :: appN r l

def allLt (n : Nat) : List Nat → Bool
  | [] => true
  | k :: l => Nat.blt k n && allLt n l

structure Sig where
  ps : List (Bool × Ty)
  rs : List Ty

def Sig.pt (s : Sig) : List Ty := s.ps.map (·.2)

def outTys : List (Bool × Ty) → List Ty
  | [] => []
  | (false, .ref true t) :: l => t :: outTys l
  | _ :: l => outTys l

def Sig.os (s : Sig) : List Ty := outTys s.ps

/-- what a loop leaves as it is: a value; a pointer's target; a pointer to a box, an array, that the loop carries -/
inductive KV
  | v (slot : Nat) (len : Bool) (τ : Ty)
  | q (slot : Nat) (len : Bool) (τ : Ty)
  | p (slot : Nat) (name : Nat)
  | s (slot : Nat) (name : Nat)

def KV.ty : KV → Ty
  | .v _ _ τ => τ
  | .q _ _ τ => τ
  | _ => .unit

/-- what a loop carries: a slot's value; a box; an array; a slot that holds a slice of the call's own -/
inductive LV
  | t (slot : Nat) (len : Bool) (τ : Ty)
  | r (name : Nat) (len : Bool) (τ : Ty)
  | a (name : Nat) (len : Bool) (τ : Ty)
  | o (slot : Nat) (len : Bool) (τ : Ty)

def LV.ty : LV → Ty
  | .t _ _ τ => τ
  | .r _ _ τ => τ
  | .a _ _ τ => .sl false τ
  | .o _ _ τ => .sl false τ

structure Cut where
  ks : List KV
  xs : List LV

/-- a table by numbers -/
def tab {α : Type} : List (Nat × α) → Nat → Option α
  | [], _ => none
  | (k, a) :: l, n => match Nat.beq k n with
    | true => some a
    | false => tab l n

structure Env where
  T : Tab
  F : FuncId → Option Func
  ty : TypeId → Option Ty
  sig : FuncId → Sig
  known : FuncId → Bool
  ann : FuncId → Nat → Option Cut
  prim : FuncId → Option Nat → List SV → St → OpR

abbrev Env.Fn (E : Env) := (f : FuncId) → denL (E.sig f).pt → Option (denL (E.sig f).rs × denL (E.sig f).os)

/-! arguments and results -/

structure Pass where
  σ : St
  owns : List Nat
  boxes : List Nat
  moved : List Nat
  lents : List Nat

def lentV (σ : St) (τ : Ty) (sv : SV) : Option (den τ) :=
  match sv with
  | .sf _ | .s _ _ _ => match τ with
    | .sl false u => match elems σ u sv with | some (_, xs) => some xs | none => none
    | _ => none
  | .q _ t a => match τ with
    | .ref false u => cast? (t := t) u a
    | _ => none
  | .p r [] => match τ with
    | .ref false u => match look σ.r r with
      | some (.box _ t a) => cast? (t := t) u a
      | _ => none
    | _ => none
  | sv => toV true τ sv

def rootsOf : SV → List Nat
  | .p r _ => [r]
  | .sf r => [r]
  | .s r _ _ => [r]
  | _ => []

def argV (p : Pass) (len : Bool) (τ : Ty) (sv : SV) : Option (den τ × Pass) :=
  match len with
  | true => match lentV p.σ τ sv with
    | some a => some (a, { p with lents := appN (rootsOf sv) p.lents })
    | none => none
  | false => match τ with
    | .ref true u => match sv with
      | .p r [] => match look p.σ.r r with
        | some (.box false t a) => match cast? (t := t) u a with
          | some y => some (y, { p with owns := r :: p.owns, boxes := r :: p.boxes })
          | none => none
        | _ => none
      | _ => none
    | .sl true u => match sv with
      | .sf r => match look p.σ.r r with
        | some (.arr false t xs) => match cast? (t := .sl true t) (.sl true u) xs with
          | some y => some (y, { p with owns := r :: p.owns, moved := r :: p.moved })
          | none => none
        | _ => none
      | .nl => some ([], p)
      | _ => none
    | τ => match τ.flat with
      | true => match sharedV p.σ sv with
        | (sv, σ) => match toV false τ sv with
          | some y => some (y, { p with σ := σ })
          | none => none
      | false => none

def argsV : (ps : List (Bool × Ty)) → List SV → Pass → Option (denL (ps.map (·.2)) × Pass)
  | [], [], p => some ((), p)
  | (len, τ) :: ps, sv :: l, p => match argV p len τ sv with
    | some (a, p) => match argsV ps l p with
      | some (r, p) => some ((a, r), p)
      | none => none
    | none => none
  | _, _, _ => none

def natMem (n : Nat) : List Nat → Bool
  | [] => false
  | k :: l => Nat.beq k n || natMem n l

def apart : List Nat → List Nat → Bool
  | [], _ => true
  | k :: l, m => !(natMem k l) && !(natMem k m) && apart l m

def there (σ : St) : List Nat → Bool
  | [] => true
  | n :: l => (match look σ.r n with | some _ => true | none => false) && there σ l

def killL : List Nat → St → St
  | [], σ => σ
  | n :: l, σ => killL l (σ.kill n)

/-- the boxes that were handed on hold what came back -/
def outsV : (ps : List (Bool × Ty)) → List SV → denL (outTys ps) → St → St
  | [], _, _, σ => σ
  | (false, .ref true t) :: ps, sv :: l, (a, r), σ => outsV ps l r (match sv with
    | .p n _ => { σ with r := upd σ.r n (.box false t a) }
    | _ => σ)
  | (true, _) :: ps, _ :: l, r, σ => outsV ps l r σ
  | (false, .int _) :: ps, _ :: l, r, σ => outsV ps l r σ
  | (false, .bool) :: ps, _ :: l, r, σ => outsV ps l r σ
  | (false, .str) :: ps, _ :: l, r, σ => outsV ps l r σ
  | (false, .unit) :: ps, _ :: l, r, σ => outsV ps l r σ
  | (false, .pair _ _) :: ps, _ :: l, r, σ => outsV ps l r σ
  | (false, .arr _ _) :: ps, _ :: l, r, σ => outsV ps l r σ
  | (false, .sl _ _) :: ps, _ :: l, r, σ => outsV ps l r σ
  | (false, .ptr _ _) :: ps, _ :: l, r, σ => outsV ps l r σ
  | (false, .ref false _) :: ps, _ :: l, r, σ => outsV ps l r σ
  | (false, .map _ _ _) :: ps, _ :: l, r, σ => outsV ps l r σ
  | _ :: _, [], _, σ => σ

def retV (τ : Ty) (a : den τ) (n : Nat) (σ : St) : Option (SV × St) :=
  match τ with
  | .sl true t => match t.flat with | true => some (.sf n, σ.new n (.arr false t a)) | false => none
  | .ref true t => some (.p n [], σ.new n (.box false t a))
  | τ => match τ.flat with | true => some (.v false τ a, σ) | false => none

def retsV : (rs : List Ty) → denL rs → Nat → St → Option (List SV × St)
  | [], _, _, σ => some ([], σ)
  | τ :: rs, (a, r), n, σ => match retV τ a n σ with
    | some (sv, σ) => match retsV rs r (n + 10000) σ with
      | some (l, σ) => some (sv :: l, σ)
      | none => none
    | none => none

def tupV : List SV → SV
  | [sv] => sv
  | l => .tup l

/-! one operation -/

def opD (E : Env) (g : Option (Nat × Bool)) (o : Oper) (σ : St) : OpR :=
  let ρ := σ.arg g
  match o.op with
  | .move x | .assign x => some (true, ρ x, σ)
  | .pick c a b =>
    match c with
    | .tmp d => opPick (ρ c) (match ρ a with | .x => σ.arg (some (d, true)) a | v => v) (match ρ b with | .x => σ.arg (some (d, false)) b | v => v) σ
    | c => opPick (ρ c) (ρ a) (ρ b) σ
  | .alloc t => match E.ty t with | some τ => opAlloc E.T o.dst t τ σ | none => none
  | .box _ x => opBox o.dst (ρ x) σ
  | .build t ps => match E.ty t with | some τ => opBuild E.T t τ g ps.toList σ | none => none
  | .buildSlice t n ps => match und E.T t with
    | some (.slice e) => match E.ty e with | some u => (match sharedL g σ ps.toList with | (qs, σ) => opMkSl E.T o.dst t u n qs σ) | none => none
    | _ => none
  | .load t a => opLoad E.T t (ρ a) σ
  | .store t a v => opStore E.T t (ρ a) (ρ v) σ
  | .nilCheck x => opNil (ρ x) σ
  | .binOp op t x y _ => opBin E.T op t (ρ x) (ρ y) σ
  | .unOp op _ x => opUn op (ρ x) σ
  | .convert s t x => opConv E.T o.dst s t (ρ x) σ
  | .makeSlice t n c => match und E.T t with
    | some (.slice e) => match E.ty e with | some u => opMake E.T o.dst t u (ρ n) (ρ c) σ | none => none
    | _ => none
  | .slice t x lo hi mx => match isZero mx with
    | true => opSlice0 E.T t (ρ x) (lo.map ρ) (hi.map ρ) (mx.map ρ) σ
    | false => opSlice E.T t (ρ x) (lo.map ρ) (hi.map ρ) (mx.map ρ) σ
  | .fieldAddr t x f => opFld E.T t (ρ x) f σ
  | .field t x f => opField E.T t (ρ x) f σ
  | .indexAddr t x i => opIdxA E.T t (ρ x) (ρ i) σ
  | .index t x i => opIdx E.T t (ρ x) (ρ i) σ
  | .extract x i => opExtract (ρ x) i σ
  | .call c => match c.callee with
    | .builtin .len => match c.args.toList, c.argTypes.toList with
      | [x], [t] => opLen E.T t (ρ x) σ
      | _, _ => none
    | .builtin .append => match c.args.toList, c.argTypes.toList with
      | [x, y], [t, t2] => match und E.T t with
        | some (.slice e) => match E.ty e with | some u => opAppend E.T o.dst t t2 u (ρ x) (ρ y) σ | none => none
        | _ => none
      | _, _ => none
    | .builtin .max => match c.args.toList.map ρ with
      | .v _ (.int k) a :: l => match maxL a l k with | some n => some (true, .v false (.int k) n, σ) | none => none
      | _ => none
    | .builtin .min => match c.args.toList.map ρ with
      | .v _ (.int k) a :: l => match minL a l k with | some n => some (true, .v false (.int k) n, σ) | none => none
      | _ => none
    | _ => none
  | _ => none

/-- no condition, nothing written: it may be reckoned where it is not asked for -/
def total (o : Oper) : Bool :=
  match o.op with
  | .move _ | .pick _ _ _ | .unOp _ _ _ | .fieldAddr _ _ _ | .load _ _ | .extract _ _ | .field _ _ _ => true
  | .binOp op _ _ _ _ => match op with | .quo | .rem | .shl | .shr => false | _ => true
  | .call c => match c.callee with | .builtin .len => true | _ => false
  | _ => false

/-- what hangs on a test that is known now -/
def knowC (d : Nat) (b : Bool) : List (Nat × Nat × Bool × SV) → List (Nat × SV)
  | [] => []
  | (k, e, w, v) :: l => match Nat.beq e d && boolEq w b with
    | true => (k, v) :: knowC d b l
    | false => knowC d b l

def keepC (d : Nat) (b : Bool) : List (Nat × Nat × Bool × SV) → List (Nat × Nat × Bool × SV)
  | [] => []
  | (k, e, w, v) :: l => match Nat.beq e d && boolEq w b with
    | true => keepC d b l
    | false => (k, e, w, v) :: keepC d b l

def appT : List (Nat × SV) → List (Nat × SV) → List (Nat × SV)
  | [], l => l
  | a :: r, l => a :: appT r l

def know (d : Nat) (b : Bool) (σ : St) : St :=
  { t := (d, .v false .bool b) :: appT (knowC d b σ.c) σ.t, c := keepC d b σ.c, r := σ.r, n := σ.n }

def calleeOf (o : Oper) : Option (FuncId × List Operand) :=
  match o.op with
  | .call c => match c.callee with
    | .value (.func f) => some (f, c.args.toList)
    | _ => none
  | _ => none

/-- two roads that must come to the same -/
noncomputable def both {R : Type} (A B : Option R) : Option R := @ite _ (A = B) (Classical.propDecidable _) A none

/-- is it nil (A), or not (B)? Nothing tells, of an empty one -/
noncomputable def bthN {R : Type} (n : Nat) (A B : Option R) : Option R :=
  match n with
  | 0 => both A B
  | _ + 1 => B

def nilTest (T : Tab) (o : Oper) : Option (Operand × Bool) :=
  match o.op with
  | .binOp op t x (.const (.slice none 0 0)) _ => match und T t, op with
    | some (.slice _), .eql => some (x, true)
    | some (.slice _), .neq => some (x, false)
    | _, _ => none
  | _ => none

noncomputable def nilK {R : Type} (σ : St) (sv : SV) (A B : Option R) : Option R :=
  match sv with
  | .v _ (.sl _ _) xs => bthN xs.length A B
  | .nl => both A B
  | .sf r => match look σ.r r with | some (.arr _ _ xs) => bthN xs.length A B | _ => none
  | .s _ _ n => bthN n A B
  | _ => none

noncomputable def doOp {R : Type} (E : Env) (fn : E.Fn) (g : Option (Nat × Bool)) (o : Oper) (σ : St) (K : St → Option R) : Option R :=
  match calleeOf o with
  | some (f, xs) => match E.known f with
    | true => match argsV (E.sig f).ps (xs.map (σ.arg g)) ⟨σ, [], [], [], []⟩ with
      | some (a, p) => match apart p.owns p.lents && apart p.moved p.boxes && there p.σ p.owns && there p.σ p.lents with
        | true => bd (fn f a) fun r =>
          match retsV (E.sig f).rs r.1 (o.dst.getD 9000) (outsV (E.sig f).ps (xs.map (σ.arg g)) r.2 (killL p.moved p.σ)) with
          | some (l, σ') => putK σ' o.dst (tupV l) K
          | none => none
        | false => none
      | none => none
    | false => match E.prim f o.dst (xs.map (σ.arg g)) σ with
      | some (c, sv, σ') => br c (putK σ' o.dst sv K) none
      | none => none
  | none => match nilTest E.T o with
    | some (x, u) => nilK σ (σ.arg g x) (putK σ o.dst (.v false .bool u) K) (putK σ o.dst (.v false .bool (!u)) K)
    | none => match opD E g o σ with
      | some (c, sv, σ') => br c (putK σ' o.dst sv K) none
      | none => none

def hangs : List (Nat × Nat × Bool × SV) → Nat → Option (Nat × Bool × SV)
  | [], _ => none
  | (k, e, w, v) :: l, n => match Nat.beq k n with
    | true => some (e, w, v)
    | false => hangs l n

/-- a guard's test: what it came to ('none': it was not asked) -/
def test {R : Type} : Nat → Nat → St → (Option Bool → St → Option R) → Option R
  | 0, _, _, _ => none
  | n + 1, d, σ, K => match find σ.t d with
    | .v _ .bool g => br g (K (some true) (know d true σ)) (K (some false) (know d false σ))
    | .x => match hangs σ.c d with
      | some (e, w, .v _ .bool g) => test n e σ fun b σ' => match b with
        | some b => match boolEq b w with
          | true => br g (K (some true) (know d true σ')) (K (some false) (know d false σ'))
          | false => K none σ'
        | none => K none σ'
      | _ => none
    | _ => none

/-- an operation is not asked for: its slot is empty -/
def skipK {R : Type} (σ : St) (dst : Option Nat) (d : Nat) (w : Bool) (K : St → Option R) : Option R :=
  match dst with
  | none => K σ
  | some e => match Nat.blt e σ.n && !(Nat.beq e d) with
    | true => K (σ.putC e d w (.v false .bool false))
    | false => none

def nthO : List Oper → Nat → Option Oper
  | [], _ => none
  | o :: _, 0 => some o
  | _ :: l, n + 1 => nthO l n

def dstOf (all : List Oper) (j : Nat) : Option Nat := match nthO all j with | some o => o.dst | none => none

noncomputable def runOps {R : Type} (E : Env) (fn : E.Fn) (all : List Oper) : List Oper → St → (St → Option R) → Option R
  | [], σ, K => K σ
  | o :: l, σ, K => match o.guard with
    | none => doOp E fn none o σ fun σ => runOps E fn all l σ K
    | some (j, w) => match dstOf all j with
      | some d => match total o with
        | true => match opD E (some (d, w)) o σ with
          | some (c, sv, _) => br c (match o.dst with
            | some e => match Nat.blt e σ.n && !(Nat.beq e d) with | true => sv.force fun sv => runOps E fn all l (σ.putC e d w sv) K | false => none
            | none => none) none
          | none => test 12 d σ fun b σ' => match b with
            | some b => match boolEq b w with
              | true => doOp E fn none o σ' fun σ => runOps E fn all l σ K
              | false => skipK σ' o.dst d w fun σ => runOps E fn all l σ K
            | none => skipK σ' o.dst d w fun σ => runOps E fn all l σ K
        | false => test 12 d σ fun b σ' => match b with
          | some b => match boolEq b w with
            | true => doOp E fn none o σ' fun σ => runOps E fn all l σ K
            | false => skipK σ' o.dst d w fun σ => runOps E fn all l σ K
          | none => skipK σ' o.dst d w fun σ => runOps E fn all l σ K
      | none => none

/-! a region whose order is drawn -/

def opSlots : List Operand → List Nat
  | [] => []
  | .tmp t :: l => t :: opSlots l
  | _ :: l => opSlots l

def mini (σ : St) (o : Oper) : St := { t := (opSlots o.op.operands.toList).map fun s => (s, find σ.t s), c := [], r := σ.r, n := σ.n }

/-- it changes nothing -/
def quietO (T : Tab) (o : Oper) : Bool :=
  match o.op with
  | .move _ | .assign _ | .pick _ _ _ | .unOp _ _ _ | .binOp _ _ _ _ _ | .fieldAddr _ _ _ | .load _ _ | .extract _ _ | .field _ _ _ | .nilCheck _ | .index _ _ _ | .indexAddr _ _ _ | .slice _ _ _ _ _ => true
  | .convert _ t _ => match und T t with | some (.int _) => true | _ => false
  | .call c => match c.callee with | .builtin .len => true | _ => false
  | _ => false

def quietPs : List (Bool × Ty) → Bool
  | [] => true
  | (len, τ) :: l => (len || τ.plain) && quietPs l

def quietRs : List Ty → Bool
  | [τ] => τ.plain
  | _ => false

def quietB (E : Env) (o : Oper) : Bool :=
  match calleeOf o with
  | some (f, _) => E.known f && quietPs (E.sig f).ps && quietRs (E.sig f).rs
  | none => quietO E.T o

def firstV : (rs : List Ty) → denL rs → SV
  | [], _ => .x
  | τ :: _, (a, _) => .v false τ a

def nilL : List Nat → Bool
  | [] => true
  | _ :: _ => false

def doQ {R : Type} (E : Env) (fn : E.Fn) (o : Oper) (m : St) (K : SV → Option R) : Option R :=
  match quietB E o with
  | true => match calleeOf o with
    | some (f, xs) => match argsV (E.sig f).ps (xs.map (m.arg none)) ⟨m, [], [], [], []⟩ with
      | some (a, p) => match nilL p.owns && there p.σ p.lents with
        | true => bd (fn f a) fun r => (firstV (E.sig f).rs r.1).force K
        | false => none
      | none => none
    | none => match opD E none o m with
      | some (c, sv, _) => br c (sv.force K) none
      | none => none
  | false => none

def putD {α : Type} (σ : St) (dst : Option Nat) (sv : SV) (K : St → Option α) : Option α :=
  match dst with
  | none => none
  | some d => match Nat.blt d σ.n with
    | true => K { σ with t := (d, sv) :: σ.t }
    | false => none

def runQ {R : Type} (E : Env) (fn : E.Fn) (all : List Oper) : List Oper → St → (St → Option R) → Option R
  | [], σ, K => K σ
  | o :: l, σ, K => match o.guard with
    | none => doQ E fn o (mini σ o) fun sv => putD σ o.dst sv fun σ => runQ E fn all l σ K
    | some (j, w) => match dstOf all j with
      | some d => match find σ.t d with
        | .v _ .bool b => br (boolEq b w)
            (doQ E fn o (mini { σ with t := (d, .v false .bool w) :: σ.t } o) fun sv => putD { σ with t := (d, .v false .bool w) :: σ.t } o.dst sv fun σ => runQ E fn all l σ K)
            (putD { σ with t := (d, .v false .bool (!w)) :: σ.t } o.dst .x fun σ => runQ E fn all l σ K)
        | _ => none
      | none => none

def idxOf : List Oper → Nat → Nat → Option Nat
  | [], _, _ => none
  | o :: l, s, k => match o.dst with
    | some d => match Nat.beq d s with | true => some k | false => idxOf l s (k + 1)
    | none => idxOf l s (k + 1)

def hasEdge : List Edge → Nat → Bool
  | [], _ => false
  | e :: l, i => (Nat.beq e.on i && Region.binds .any e) || hasEdge l i

def slotsAll (all : List Oper) (o : Oper) : List Nat :=
  match o.guard with
  | some (j, _) => match dstOf all j with | some d => d :: opSlots o.op.operands.toList | none => opSlots o.op.operands.toList
  | none => opSlots o.op.operands.toList

/-- what an operation looks at is reckoned ahead of it, in every order -/
def looksOk (all : List Oper) (o : Oper) (k : Nat) : List Nat → Bool
  | [] => true
  | s :: l => (match idxOf all s 0 with | some i => hasEdge o.after.toList i && Nat.blt i k | none => true) && looksOk all o k l

def edgesBack (k : Nat) : List Edge → Bool
  | [] => true
  | e :: l => Nat.blt e.on k && edgesBack k l

/-- each slot is written once -/
def onceOk (all : List Oper) : List Oper → Nat → Bool
  | [], _ => true
  | o :: l, k => (match o.dst with | some d => (match idxOf all d 0 with | some i => Nat.beq i k | none => false) | none => false) && looksOk all o k (slotsAll all o) && edgesBack k o.after.toList && onceOk all l (k + 1)

def edgesAll (o : Oper) : Nat → Bool
  | 0 => true
  | k + 1 => hasEdge o.after.toList k && edgesAll o k

def noneG {α : Type} : Option α → Bool
  | none => true
  | some _ => false

/-- all quiet; or all but the last, which comes behind all the others -/
def split (E : Env) : List Oper → Option (List Oper × Option Oper)
  | [] => some ([], none)
  | [o] => match quietB E o with | true => some ([o], none) | false => some ([], some o)
  | o :: l => match quietB E o with
    | true => match split E l with | some (q, z) => some (o :: q, z) | none => none
    | false => none

noncomputable def runDraw {R : Type} (E : Env) (fn : E.Fn) (all : List Oper) (σ : St) (K : St → Option R) : Option R :=
  match split E all with
  | some (q, z) => match onceOk q q 0 with
    | true => runQ E fn q q { σ with c := [] } fun σ => match z with
      | none => K σ
      | some o => match noneG o.guard && edgesAll o q.length && edgesBack q.length o.after.toList with
        | true => doOp E fn none o σ K
        | false => none
    | false => none
  | none => none

/-! loops, and cuts -/

def dsts : Code → List Nat
  | .region _ ops _ => ops.toList.filterMap (·.dst)
  | .seq a b => dsts a ++ dsts b
  | .cond _ a b => dsts a ++ dsts b
  | .block _ c => dsts c
  | .loop c => dsts c
  | _ => []

def canon (slot : Nat) : Nat := 20000 + slot

def ktys : List KV → List Ty
  | [] => []
  | k :: l => k.ty :: ktys l

def xtys : List LV → List Ty
  | [] => []
  | x :: l => x.ty :: xtys l

/-- the boxes among what a loop carries -/
def btys : List LV → List Ty
  | [] => []
  | .r _ _ τ :: l => τ :: btys l
  | .t _ _ _ :: l => btys l
  | .a _ _ _ :: l => btys l
  | .o _ _ _ :: l => btys l

def kslots : (l : List KV) → denL (ktys l) → List (Nat × SV)
  | [], _ => []
  | .v s len τ :: l, (a, r) => (s, .v len τ a) :: kslots l r
  | .q s len τ :: l, (a, r) => (s, .q len τ a) :: kslots l r
  | .p s n :: l, (_, r) => (s, .p n []) :: kslots l r
  | .s s n :: l, (_, r) => (s, .sf n) :: kslots l r

def xroots : (l : List LV) → denL (xtys l) → List (Nat × Root)
  | [], _ => []
  | .r n len τ :: l, (a, r) => (n, .box len τ a) :: xroots l r
  | .a n len τ :: l, (a, r) => (n, .arr len τ a) :: xroots l r
  | .o s len τ :: l, (a, r) => (canon s, .arr len τ a) :: xroots l r
  | .t _ _ _ :: l, (_, r) => xroots l r

def xslots : (l : List LV) → denL (xtys l) → List (Nat × SV)
  | [], _ => []
  | .t s len τ :: l, (a, r) => (s, .v len τ a) :: xslots l r
  | .o s _ _ :: l, (_, r) => (s, .sf (canon s)) :: xslots l r
  | .r _ _ _ :: l, (_, r) => xslots l r
  | .a _ _ _ :: l, (_, r) => xslots l r

/-- the state at a round's head -/
def fill (n : Nat) (ks : List KV) (kv : denL (ktys ks)) (xs : List LV) (xv : denL (xtys xs)) : St :=
  { t := appT (xslots xs xv) (kslots ks kv), c := [], r := xroots xs xv, n := n }

def extract (σ : St) : (xs : List LV) → Option (denL (xtys xs))
  | [] => some ()
  | .t s len τ :: l => match toV len τ (find σ.t s), extract σ l with | some a, some r => some (a, r) | _, _ => none
  | .r n len τ :: l => match look σ.r n with
    | some (.box len' t a) => match (!len' || len), cast? (t := t) τ a, extract σ l with | true, some a, some r => some (a, r) | _, _, _ => none
    | _ => none
  | .a n len τ :: l => match look σ.r n with
    | some (.arr len' t a) => match (!len' || len), cast? (t := .sl false t) (.sl false τ) a, extract σ l with | true, some a, some r => some (a, r) | _, _, _ => none
    | _ => none
  | .o s len τ :: l => match find σ.t s with
    | .sf n => match look σ.r n with
      | some (.arr len' t a) => match (!len' || len), cast? (t := .sl false t) (.sl false τ) a, extract σ l with | true, some a, some r => some (a, r) | _, _, _ => none
      | _ => none
    | .nl => match extract σ l with | some r => some ([], r) | none => none
    | _ => none

def extractB (σ : St) : (xs : List LV) → Option (denL (btys xs))
  | [] => some ()
  | .r n len τ :: l => match look σ.r n with
    | some (.box len' t a) => match (!len' || len), cast? (t := t) τ a, extractB σ l with | true, some a, some r => some (a, r) | _, _, _ => none
    | _ => none
  | .t _ _ _ :: l => extractB σ l
  | .a _ _ _ :: l => extractB σ l
  | .o _ _ _ :: l => extractB σ l

def extractK (σ : St) : (ks : List KV) → Option (denL (ktys ks))
  | [] => some ()
  | .v s len τ :: l => match (match len with | true => lentV σ τ (find σ.t s) | false => toV false τ (find σ.t s)), extractK σ l with
    | some a, some r => some (a, r)
    | _, _ => none
  | .q s len τ :: l => match (match len with
      | true => lentV σ (.ref false τ) (find σ.t s)
      | false => match find σ.t s with | .q false t a => cast? (t := t) τ a | _ => none), extractK σ l with
    | some a, some r => some (a, r)
    | _, _ => none
  | .p s n :: l => match find σ.t s with
    | .p r [] => match Nat.beq r n, extractK σ l with | true, some r => some ((), r) | _, _ => none
    | _ => none
  | .s s n :: l => match find σ.t s with
    | .sf r => match Nat.beq r n, extractK σ l with | true, some r => some ((), r) | _, _ => none
    | _ => none

/-- the roots that the loop takes in: what it carries, and what the slices' slots hold -/
def takenNames (σ : St) : List LV → List Nat
  | [] => []
  | .r n _ _ :: l => n :: takenNames σ l
  | .a n _ _ :: l => n :: takenNames σ l
  | .o s _ _ :: l => match find σ.t s with | .sf n => n :: takenNames σ l | _ => takenNames σ l
  | .t _ _ _ :: l => takenNames σ l

/-- what they are called in the loop -/
def xnames : List LV → List Nat
  | [] => []
  | .r n _ _ :: l => n :: xnames l
  | .a n _ _ :: l => n :: xnames l
  | .o s _ _ :: l => canon s :: xnames l
  | .t _ _ _ :: l => xnames l

def slotsOf : List LV → List Nat
  | [] => []
  | .t s _ _ :: l => s :: slotsOf l
  | .o s _ _ :: l => s :: slotsOf l
  | .r _ _ _ :: l => slotsOf l
  | .a _ _ _ :: l => slotsOf l

def kslotsOf : List KV → List Nat
  | [] => []
  | .v s _ _ :: l => s :: kslotsOf l
  | .q s _ _ :: l => s :: kslotsOf l
  | .p s _ :: l => s :: kslotsOf l
  | .s s _ :: l => s :: kslotsOf l

/-- boxes, arrays that a slot of the loop's constants holds -/
def pinsB : List KV → List Nat
  | [] => []
  | .p _ n :: l => n :: pinsB l
  | .s _ _ :: l => pinsB l
  | .v _ _ _ :: l => pinsB l
  | .q _ _ _ :: l => pinsB l

def pinsA : List KV → List Nat
  | [] => []
  | .s _ n :: l => n :: pinsA l
  | .p _ _ :: l => pinsA l
  | .v _ _ _ :: l => pinsA l
  | .q _ _ _ :: l => pinsA l

def boxNames : List LV → List Nat
  | [] => []
  | .r n _ _ :: l => n :: boxNames l
  | .a _ _ _ :: l => boxNames l
  | .t _ _ _ :: l => boxNames l
  | .o _ _ _ :: l => boxNames l

def arrNames : List LV → List Nat
  | [] => []
  | .a n _ _ :: l => n :: arrNames l
  | .r _ _ _ :: l => arrNames l
  | .t _ _ _ :: l => arrNames l
  | .o _ _ _ :: l => arrNames l

def allIn : List Nat → List Nat → Bool
  | [], _ => true
  | n :: l, m => natMem n m && allIn l m

def without : List Nat → List Nat → List Nat
  | [], _ => []
  | n :: l, m => match natMem n m with | true => without l m | false => n :: without l m

/-- the roots that are lent while the loop runs -/
def klents (σ : St) : List KV → List Nat
  | [] => []
  | .v s _ _ :: l => appN (rootsOf (find σ.t s)) (klents σ l)
  | .q s _ _ :: l => appN (rootsOf (find σ.t s)) (klents σ l)
  | .p _ _ :: l => klents σ l
  | .s _ _ :: l => klents σ l

def delAll : List Nat → List (Nat × Root) → List (Nat × Root)
  | [], r => r
  | n :: l, r => delAll l (del r n)

def appR : List (Nat × Root) → List (Nat × Root) → List (Nat × Root)
  | [], l => l
  | a :: r, l => a :: appR r l

def usesAny : List Nat → SV → Bool
  | [], _ => false
  | n :: l, sv => sv.uses n || usesAny l sv

/-- the slots that a loop's body does not write -/
def keepT (asg gone : List Nat) : List (Nat × SV) → List (Nat × SV)
  | [] => []
  | (k, v) :: l => match natMem k asg || usesAny gone v with
    | true => (k, .x) :: keepT asg gone l
    | false => (k, v) :: keepT asg gone l

def pinOk (σ : St) : List KV → Bool
  | [] => true
  | .p s n :: l => (match find σ.t s with | .p r [] => Nat.beq r n | _ => false) && pinOk σ l
  | .s s n :: l => (match find σ.t s with | .sf r => Nat.beq r n | _ => false) && pinOk σ l
  | .v _ _ _ :: l => pinOk σ l
  | .q _ _ _ :: l => pinOk σ l

/-- what the loop carries, out of a state -/
def outX (n : Nat) (σ : St) (c : Cut) : Option (denL (xtys c.xs)) :=
  match apart (takenNames σ c.xs) [] && pinOk σ c.ks && Nat.beq σ.n n with
  | true => extract σ c.xs
  | false => none

def outB (σ : St) (c : Cut) : Option (denL (btys c.xs)) :=
  match pinOk σ c.ks with
  | true => extractB σ c.xs
  | false => none

/-- the state behind the loop -/
def behind (σ : St) (asg : List Nat) (c : Cut) (xv : denL (xtys c.xs)) : St :=
  { t := appT (xslots c.xs xv) (keepT asg (without (appN (xnames c.xs) (takenNames σ c.xs)) (appN (pinsB c.ks) (pinsA c.ks))) σ.t), c := [],
    r := appR (xroots c.xs xv) (delAll (takenNames σ c.xs) σ.r), n := σ.n }

def broots : (xs : List LV) → denL (btys xs) → List (Nat × Root)
  | [], _ => []
  | .r n len τ :: l, (a, r) => (n, .box len τ a) :: broots l r
  | .t _ _ _ :: l, r => broots l r
  | .a _ _ _ :: l, r => broots l r
  | .o _ _ _ :: l, r => broots l r

/-- the state behind a return out of the loop: the boxes alone -/
def behindB (σ : St) (asg : List Nat) (c : Cut) (b : denL (btys c.xs)) : St :=
  { t := keepT asg (without (appN (xnames c.xs) (takenNames σ c.xs)) (pinsB c.ks)) σ.t, c := [],
    r := appR (broots c.xs b) (delAll (takenNames σ c.xs) σ.r), n := σ.n }

def noLen : List LV → Bool
  | [] => true
  | .t _ len _ :: l => !len && noLen l
  | .r _ len _ :: l => !len && noLen l
  | .a _ len _ :: l => !len && noLen l
  | .o _ len _ :: l => !len && noLen l

/-- may the loop be taken so? -/
def cutOk (σ : St) (asg : List Nat) (c : Cut) : Bool :=
  apart (takenNames σ c.xs) (klents σ c.ks) && apart (xnames c.xs) [] && apart (slotsOf c.xs) (kslotsOf c.ks) && apart (kslotsOf c.ks) asg && allLt σ.n (slotsOf c.xs) &&
    allIn (pinsB c.ks) (boxNames c.xs) && allIn (pinsA c.ks) (arrNames c.xs) && (nilL (klents σ c.ks) || noLen c.xs)

inductive LO (Q X B : Type)
  | brk (a : X)
  | ext (id : Nat) (a : X)
  | ret (q : Q) (b : B)

def bdL {Q X B R : Type} (o : Option (LO Q X B)) (f : X → Option R) (g : Nat → X → Option R) (h : Q → B → Option R) : Option R :=
  match o with
  | none => none
  | some (.brk b) => f b
  | some (.ext j b) => g j b
  | some (.ret q b) => h q b

inductive Ex (Q : Type)
  | n
  | e (id : Nat)
  | r (q : Q)

def loopF {Q : Type} (again : Bool) (id n : Nat) (c : Cut) (kv : denL (ktys c.ks))
    (body : St → (Ex Q → St → Option (LO Q (denL (xtys c.xs)) (denL (btys c.xs)))) → Option (LO Q (denL (xtys c.xs)) (denL (btys c.xs)))) :
    Nat → denL (xtys c.xs) → Option (LO Q (denL (xtys c.xs)) (denL (btys c.xs)))
  | 0, _ => none
  | m + 1, a => body (fill n c.ks kv c.xs a) fun e σ' => match e with
    | .n => match outX n σ' c with | some b => (match again with | true => loopF again id n c kv body m b | false => some (.brk b)) | none => none
    | .e j => match outX n σ' c with | some b => br (Nat.beq j id) (some (.brk b)) (some (.ext j b)) | none => none
    | .r q => match outB σ' c with | some b => some (.ret q b) | none => none

def asB : SV → Option Bool
  | .v _ .bool b => some b
  | _ => none

def takeV (τ : Ty) (sv : SV) (σ : St) : Option (den τ × St) :=
  match τ with
  | .ref true u => match sv with
    | .p r [] => match look σ.r r with
      | some (.box false t a) => match cast? (t := t) u a with
        | some y => some (y, σ.kill r)
        | none => none
      | _ => none
    | _ => none
  | .sl true u => match sv with
    | .sf r => match look σ.r r with
      | some (.arr false t xs) => match cast? (t := .sl true t) (.sl true u) xs with
        | some y => some (y, σ.kill r)
        | none => none
      | _ => none
    | .nl => some ([], σ)
    | _ => none
  | τ => match τ.flat with
    | true => match sharedV σ sv with
      | (sv, σ) => match toV false τ sv with
        | some y => some (y, σ)
        | none => none
    | false => none

def takesV (T : Tab) : (rs : List Ty) → List ResultVar → St → Option (denL rs × St)
  | [], [], σ => some ((), σ)
  | τ :: rs, .tmp t :: l, σ => match takeV τ (find σ.t t) σ with
    | some (a, σ) => match takesV T rs l σ with
      | some (r, σ) => some ((a, r), σ)
      | none => none
    | none => none
  | τ :: rs, .cell s ty :: l, σ => match opLoad T ty (find σ.t s) σ with
    | some (true, sv, _) => match takeV τ sv σ with
      | some (a, σ) => match takesV T rs l σ with
        | some (r, σ) => some ((a, r), σ)
        | none => none
      | none => none
    | _ => none
  | _, _, _ => none

/-- a loop, or a cut: what it comes to is handed on -/
def cutK {Q R : Type} (σ : St) (asg : List Nat) (c : Cut) (run : denL (ktys c.ks) → denL (xtys c.xs) → Option (LO Q (denL (xtys c.xs)) (denL (btys c.xs)))) (K : Ex Q → St → Option R) : Option R :=
  match cutOk σ asg c with
  | true => match extractK σ c.ks, extract σ c.xs with
    | some kv, some xv => bdL (run kv xv) (fun b => K .n (behind σ asg c b)) (fun j b => K (.e j) (behind σ asg c b)) (fun q b => K (.r q) (behindB σ asg c b))
    | _, _ => none
  | false => none

noncomputable def ev (E : Env) (fn : E.Fn) (f : FuncId) (rv : List ResultVar) (k : Nat) : Code → (R : Type) → St → (Ex (denL (E.sig f).rs) → St → Option R) → Option R
  | .skip, _, σ, K => K .n σ
  | .region _ ops draw, _, σ, K => match draw with
    | false => runOps E fn ops.toList ops.toList σ (K .n)
    | true => runDraw E fn ops.toList σ (K .n)
  | .seq a b, R, σ, K => ev E fn f rv k a R σ fun e σ' => match e with
    | .n => ev E fn f rv k b R σ' K
    | e => K e σ'
  | .cond c a b, R, σ, K => match asB (σ.arg none c) with
    | some g => br g (ev E fn f rv k a R σ K) (ev E fn f rv k b R σ K)
    | none => none
  | .block id (.loop c), R, σ, K => match E.ann f id with
    | some cut => cutK σ (dsts c) cut (fun kv xv => loopF true id σ.n cut kv (fun σ K => ev E fn f rv k c _ σ K) k xv) K
    | none => none
  | .block id c, R, σ, K => match E.ann f id with
    | some cut => cutK σ (dsts c) cut (fun kv xv => loopF false id σ.n cut kv (fun σ K => ev E fn f rv k c _ σ K) 1 xv) K
    | none => ev E fn f rv k c R σ fun e σ' => match e with
      | .e j => br (Nat.beq j id) (K .n σ') (K (.e j) σ')
      | e => K e σ'
  | .exit id, _, σ, K => K (.e id) σ
  | .ret, _, σ, K => match takesV E.T (E.sig f).rs rv σ with
    | some (q, σ) => K (.r q) σ
    | none => none
  | _, _, _, _ => none

/-! a function -/

def initV : (ps : List (Bool × Ty)) → denL (ps.map (·.2)) → Nat → List (Nat × SV) × List (Nat × Root)
  | [], _, _ => ([], [])
  | (len, τ) :: ps, (a, r), n =>
    let (l, ρ) := initV ps r (n + 1)
    match len with
    | true => match τ, a with
      | .ref false t, a => ((n, .q true t a) :: l, ρ)
      | τ, a => ((n, mkv true τ a) :: l, ρ)
    | false => match τ, a with
      | .ref true t, a => ((n, .p n []) :: l, (n, .box false t a) :: ρ)
      | .sl true t, a => ((n, .sf n) :: l, (n, .arr false t a) :: ρ)
      | τ, a => ((n, match τ.flat with | true => mkv false τ a | false => .x) :: l, ρ)

def outsOf : (ps : List (Bool × Ty)) → Nat → St → Option (denL (outTys ps))
  | [], _, _ => some ()
  | (false, .ref true t) :: ps, n, σ => match find σ.t n with
    | .p k [] => match Nat.beq k n, look σ.r n with
      | true, some (.box false u a) => match cast? (t := u) t a, outsOf ps (n + 1) σ with | some a, some r => some (a, r) | _, _ => none
      | _, _ => none
    | _ => none
  | (true, _) :: ps, n, σ => outsOf ps (n + 1) σ
  | (false, .int _) :: ps, n, σ => outsOf ps (n + 1) σ
  | (false, .bool) :: ps, n, σ => outsOf ps (n + 1) σ
  | (false, .str) :: ps, n, σ => outsOf ps (n + 1) σ
  | (false, .unit) :: ps, n, σ => outsOf ps (n + 1) σ
  | (false, .pair _ _) :: ps, n, σ => outsOf ps (n + 1) σ
  | (false, .arr _ _) :: ps, n, σ => outsOf ps (n + 1) σ
  | (false, .sl _ _) :: ps, n, σ => outsOf ps (n + 1) σ
  | (false, .ptr _ _) :: ps, n, σ => outsOf ps (n + 1) σ
  | (false, .ref false _) :: ps, n, σ => outsOf ps (n + 1) σ
  | (false, .map _ _ _) :: ps, n, σ => outsOf ps (n + 1) σ

/-- the slots of the boxes that are handed on -/
def outSlots : List (Bool × Ty) → Nat → List Nat
  | [], _ => []
  | (false, .ref true _) :: ps, n => n :: outSlots ps (n + 1)
  | _ :: ps, n => outSlots ps (n + 1)

noncomputable def fnB (E : Env) (fn : E.Fn) (k : Nat) (f : FuncId) (c : Code) (ntmps : Nat) (rv : List ResultVar) (a : denL (E.sig f).pt) :
    Option (denL (E.sig f).rs × denL (E.sig f).os) :=
  match Nat.ble (E.sig f).ps.length ntmps && apart (outSlots (E.sig f).ps 0) (dsts c) with
  | true => match initV (E.sig f).ps a 0 with
    | (l, r) => ev E fn f rv k c _ ⟨l, [], r, ntmps⟩ fun e σ => match e with
      | .n => match takesV E.T (E.sig f).rs rv σ with
        | some (q, σ) => match outsOf (E.sig f).ps 0 σ with | some o => some (q, o) | none => none
        | none => none
      | .r q => match outsOf (E.sig f).ps 0 σ with | some o => some (q, o) | none => none
      | .e _ => none
  | false => none

noncomputable def fnS (E : Env) (fn : E.Fn) (k : Nat) (f : FuncId) (a : denL (E.sig f).pt) : Option (denL (E.sig f).rs × denL (E.sig f).os) :=
  match E.F f with
  | some F => match F.body with
    | some c => fnB E fn k f c F.ntmps F.results.toList a
    | none => none
  | none => none

noncomputable def fnE (E : Env) : Nat → E.Fn
  | 0 => fun _ _ => none
  | k + 1 => fun f a => fnS E (fnE E k) k f a

end Go.Proofs.Ytnffdeokhcojfaa.E

namespace Go.Proofs.Ytnffdeokhcojfaa.E
open Go
set_option linter.unusedSimpArgs false
set_option linter.unusedVariables false

/-! parts of a value, and their cells -/

/-- the offset and the type of a part, by the type alone -/
def fldOff : Ty → Nat → Option (Nat × Ty)
  | .pair a _, 0 => some (0, a)
  | .pair a b, n + 1 => match fldOff b n with
    | some (o, u) => some (a.size + o, u)
    | none => none
  | _, _ => none

def selOff : List Sel → Ty → Option (Nat × Ty)
  | [], t => some (0, t)
  | .f i :: s, t => match fldOff t i with
    | some (o, u) => match selOff s u with
      | some (o', w) => some (o + o', w)
      | none => none
    | none => none
  | .i n :: s, .arr _ t => match selOff s t with
    | some (o', w) => some (n * t.size + o', w)
    | none => none
  | _, _ => none

/-- the places that are chosen lie in the arrays -/
def selOk : List Sel → Ty → Prop
  | [], _ => True
  | .f i :: s, t => match fldOff t i with
    | some (_, u) => selOk s u
    | none => False
  | .i n :: s, .arr m t => n < m ∧ selOk s t
  | _, _ => False

theorem fldGet_off : ∀ (t : Ty) (x : den t) (i : Nat) (p : Pt), fldGet t x i = some p → fldOff t i = some (p.o, p.t)
  | .pair a b, x, 0, p, h => by simp [fldGet] at h; subst h; simp [fldOff]
  | .pair a b, x, n + 1, p, h => by
    simp only [fldGet] at h
    cases hg : fldGet b x.2 n with
    | none => simp [hg] at h
    | some q =>
      simp [hg] at h
      have := fldGet_off b x.2 n q hg
      subst h
      simp [fldOff, this]
  | .int _, _, _, _, h | .bool, _, _, _, h | .str, _, _, _, h | .unit, _, _, _, h | .arr _ _, _, _, _, h | .sl _ _, _, _, _, h | .ptr _ _, _, _, _, h | .ref _ _, _, _, _, h | .map _ _ _, _, _, _, h => by
    simp [fldGet] at h

theorem selGet_off : ∀ (s : List Sel) (t : Ty) (x : den t) (p : Pt), selGet s t x = some p → selOff s t = some (p.o, p.t)
  | [], t, x, p, h => by simp [selGet] at h; subst h; simp [selOff]
  | .f i :: s, t, x, p, h => by
    simp only [selGet] at h
    cases hf : fldGet t x i with
    | none => simp [hf] at h
    | some q =>
      simp only [hf] at h
      cases hg : selGet s q.t q.a with
      | none => simp [hg] at h
      | some q' =>
        simp [hg] at h
        have h1 := fldGet_off t x i q hf
        have h2 := selGet_off s q.t q.a q' hg
        subst h
        simp [selOff, h1, h2]
  | .i n :: s, .arr m t, x, p, h => by
    simp only [selGet] at h
    cases hg : selGet s t (List.getD x n (dflt t)) with
    | none => rw [hg] at h; simp at h
    | some q' =>
      rw [hg] at h; simp at h
      have h2 := selGet_off s t _ q' hg
      subst h
      simp [selOff, h2]
  | .i n :: s, .int _, x, p, h | .i n :: s, .bool, x, p, h | .i n :: s, .str, x, p, h | .i n :: s, .unit, x, p, h | .i n :: s, .pair _ _, x, p, h
  | .i n :: s, .sl _ _, x, p, h | .i n :: s, .ptr _ _, x, p, h | .i n :: s, .ref _ _, x, p, h | .i n :: s, .map _ _ _, x, p, h => by simp [selGet] at h

/-- a part lies within -/
theorem fldOff_le : ∀ {t : Ty} {i o : Nat} {a : Ty}, fldOff t i = some (o, a) → o + a.size ≤ t.size
  | .pair a b, 0, o, u, h => by simp [fldOff] at h; obtain ⟨rfl, rfl⟩ := h; simp [Ty.size]
  | .pair a b, n + 1, o, u, h => by
    simp only [fldOff] at h
    cases hf : fldOff b n with
    | none => simp [hf] at h
    | some q =>
      simp [hf] at h
      have := fldOff_le hf
      obtain ⟨rfl, rfl⟩ := h
      simp [Ty.size]; omega
  | .int _, _, _, _, h | .bool, _, _, _, h | .str, _, _, _, h | .unit, _, _, _, h | .arr _ _, _, _, _, h | .sl _ _, _, _, _, h | .ptr _ _, _, _, _, h | .ref _ _, _, _, _, h | .map _ _ _, _, _, _, h => by simp [fldOff] at h

theorem selOff_le : ∀ {s : List Sel} {t : Ty} {o : Nat} {a : Ty}, selOff s t = some (o, a) → selOk s t → o + a.size ≤ t.size
  | [], t, o, a, h, _ => by simp [selOff] at h; obtain ⟨rfl, rfl⟩ := h; simp
  | .f i :: s, t, o, a, h, hok => by
    simp only [selOff] at h
    cases hf : fldOff t i with
    | none => simp [hf] at h
    | some q =>
      simp only [hf] at h
      simp only [selOk, hf] at hok
      cases hs : selOff s q.2 with
      | none => simp [hs] at h
      | some q' =>
        simp [hs] at h
        obtain ⟨rfl, rfl⟩ := h
        have h1 := fldOff_le (t := t) (i := i) (o := q.1) (a := q.2) hf
        have h2 := selOff_le (o := q'.1) (a := q'.2) hs hok
        omega
  | .i n :: s, .arr m t, o, a, h, hok => by
    simp only [selOff] at h
    cases hs : selOff s t with
    | none => simp [hs] at h
    | some q' =>
      simp [hs] at h
      obtain ⟨rfl, rfl⟩ := h
      have h2 := selOff_le (o := q'.1) (a := q'.2) hs hok.2
      have : n * t.size + t.size ≤ m * t.size := by
        rw [← Nat.succ_mul]; exact Nat.mul_le_mul_right _ hok.1
      simp [Ty.size]; omega
  | .i n :: s, .int _, _, _, h, _ | .i n :: s, .bool, _, _, h, _ | .i n :: s, .str, _, _, h, _ | .i n :: s, .unit, _, _, h, _ | .i n :: s, .pair _ _, _, _, h, _
  | .i n :: s, .sl _ _, _, _, h, _ | .i n :: s, .ptr _ _, _, _, h, _ | .i n :: s, .ref _ _, _, _, h, _ | .i n :: s, .map _ _ _, _, _, h, _ => by simp [selOff] at h

/-! rows -/

theorem seg_seg (cs c : List Value) (o a o' u : Nat) (h1 : o' + u ≤ a) (h2 : o + a ≤ cs.length) :
    cs.take o ++ (((cs.drop o).take a).take o' ++ c ++ ((cs.drop o).take a).drop (o' + u)) ++ cs.drop (o + a) = cs.take (o + o') ++ c ++ cs.drop (o + o' + u) := by
  have e1 : List.take (o + o') cs = List.take o cs ++ List.take o' (List.drop o cs) := by rw [List.take_add]
  have e2 : List.drop (o + o' + u) cs = List.take (a - (o' + u)) (List.drop (o + o' + u) cs) ++ List.drop (o + a) cs := by
    conv => lhs; rw [← List.take_append_drop (a - (o' + u)) (List.drop (o + o' + u) cs)]
    rw [List.drop_drop]; congr 2; omega
  rw [e1, e2, List.take_take, List.drop_take, List.drop_drop, Nat.min_eq_left (by omega : o' ≤ a)]
  simp [List.append_assoc, Nat.add_assoc]


theorem RL.get {α : Type} {R : α → List Value → List Nat → Prop} {s : Nat} (hr : ∀ x c X, R x c X → c.length = s) (d : α) :
    ∀ {xs : List α} {cs X} (n : Nat), n < xs.length → RL R xs cs X → ∃ Y, (∀ b ∈ Y, b ∈ X) ∧ (X.Nodup → Y.Nodup) ∧ R (xs.getD n d) ((cs.drop (n * s)).take s) Y ∧ n * s + s ≤ cs.length
  | [], _, _, _, hn, _ => by simp at hn
  | x :: xs, cs, X, 0, _, ⟨c1, c2, X1, X2, h1, h2, h3, h4⟩ => by
    have hl := hr _ _ _ h3
    refine ⟨X1, by subst h2; intro b hb; simp [hb], by subst h2; intro hd; exact (List.nodup_append.1 hd).1, ?_, by simp [h1, hl]⟩
    rw [h1]
    simpa [← hl] using h3
  | x :: xs, cs, X, n + 1, hn, ⟨c1, c2, X1, X2, h1, h2, h3, h4⟩ => by
    have hl := hr _ _ _ h3
    obtain ⟨Y, hY, hd, hR, hlen⟩ := RL.get hr d (xs := xs) n (by simpa using hn) h4
    refine ⟨Y, by subst h2; intro b hb; simp [hY b hb], by subst h2; intro h; exact hd (List.nodup_append.1 h).2.1, ?_, ?_⟩
    · have : cs.drop ((n + 1) * s) = c2.drop (n * s) := by
        rw [h1, Nat.add_mul, Nat.one_mul, Nat.add_comm, ← List.drop_drop]
        simp [← hl]
      rw [this]; simpa using hR
    · rw [h1, List.length_append, hl, Nat.add_mul]; omega

/-- an element is put in its place; what it owns stays -/
theorem RL.set {α : Type} {R : α → List Value → List Nat → Prop} {s : Nat} (hr : ∀ x c X, R x c X → c.length = s) (d : α) :
    ∀ {xs : List α} {cs X} (n : Nat) (y : α) (c : List Value), n < xs.length → (∀ Y, R (xs.getD n d) ((cs.drop (n * s)).take s) Y → R y c Y) → RL R xs cs X →
      RL R (xs.set n y) (cs.take (n * s) ++ c ++ cs.drop (n * s + s)) X
  | [], _, _, _, _, _, hn, _, _ => by simp at hn
  | x :: xs, cs, X, 0, y, c, _, hy, ⟨c1, c2, X1, X2, h1, h2, h3, h4⟩ => by
    have hl := hr _ _ _ h3
    refine ⟨c, c2, X1, X2, ?_, h2, hy X1 ?_, h4⟩
    · rw [h1]; simp [← hl]
    · rw [h1]; simpa [← hl] using h3
  | x :: xs, cs, X, n + 1, y, c, hn, hy, ⟨c1, c2, X1, X2, h1, h2, h3, h4⟩ => by
    have hl := hr _ _ _ h3
    have e1 : (n + 1) * s = c1.length + n * s := by rw [hl, Nat.add_mul]; omega
    refine ⟨c1, _, X1, X2, ?_, h2, h3, RL.set hr d n y c (by simpa using hn) ?_ h4⟩
    · have e2 : c1.length + n * s + s - c1.length = n * s + s := by omega
      rw [h1, e1, List.take_append, List.drop_append]
      simp [List.take_of_length_le, List.drop_of_length_le, Nat.add_assoc, e2]
    · intro Y hY
      refine hy Y ?_
      have : List.drop ((n + 1) * s) cs = List.drop (n * s) c2 := by rw [h1, e1, ← List.drop_drop]; simp
      rw [this]; simpa using hY

theorem RL.drop {α : Type} {R : α → List Value → List Nat → Prop} {s : Nat} (hr : ∀ x c X, R x c X → c.length = s) :
    ∀ {xs : List α} {cs X} (n : Nat), RL R xs cs X → ∃ Y, (∀ b ∈ Y, b ∈ X) ∧ RL R (xs.drop n) (cs.drop (n * s)) Y
  | xs, cs, X, 0, h => ⟨X, fun _ h => h, by simpa using h⟩
  | [], cs, X, n + 1, h => ⟨X, fun _ h => h, by rw [h.1]; simpa using ⟨rfl, h.2⟩⟩
  | x :: xs, cs, X, n + 1, ⟨c1, c2, X1, X2, h1, h2, h3, h4⟩ => by
    have hl := hr _ _ _ h3
    obtain ⟨Y, hY, hR⟩ := RL.drop hr (xs := xs) n h4
    refine ⟨Y, by subst h2; intro b hb; simp [hY b hb], ?_⟩
    have : cs.drop ((n + 1) * s) = c2.drop (n * s) := by
      rw [h1, Nat.add_mul, Nat.one_mul, Nat.add_comm, ← List.drop_drop]
      simp [← hl]
    rw [this]; simpa using hR

theorem RL.take {α : Type} {R : α → List Value → List Nat → Prop} {s : Nat} (hr : ∀ x c X, R x c X → c.length = s) :
    ∀ {xs : List α} {cs X} (n : Nat), RL R xs cs X → ∃ Y, (∀ b ∈ Y, b ∈ X) ∧ RL R (xs.take n) (cs.take (n * s)) Y
  | xs, cs, X, 0, h => ⟨[], by simp, by simp [RL]⟩
  | [], cs, X, n + 1, h => ⟨X, fun _ h => h, by rw [h.1]; simpa using ⟨rfl, h.2⟩⟩
  | x :: xs, cs, X, n + 1, ⟨c1, c2, X1, X2, h1, h2, h3, h4⟩ => by
    have hl := hr _ _ _ h3
    obtain ⟨Y, hY, hR⟩ := RL.take hr (xs := xs) n h4
    refine ⟨X1 ++ Y, ?_, ?_⟩
    · subst h2
      intro b hb
      rcases List.mem_append.1 hb with h | h
      · simp [h]
      · simp [hY b h]
    · have : cs.take ((n + 1) * s) = c1 ++ c2.take (n * s) := by
        rw [h1, List.take_append]
        have : (n + 1) * s - c1.length = n * s := by rw [hl, Nat.add_mul]; omega
        rw [this, List.take_of_length_le (by rw [hl, Nat.add_mul]; omega)]
      rw [this]
      exact ⟨c1, _, X1, Y, rfl, rfl, h3, hR⟩

theorem RL.replicate {α : Type} {R : α → List Value → List Nat → Prop} {x : α} {c : List Value} (h : R x c []) : ∀ n, RL R (List.replicate n x) (List.replicate n c).flatten []
  | 0 => ⟨rfl, rfl⟩
  | n + 1 => ⟨c, _, [], [], rfl, rfl, h, RL.replicate h n⟩

section
variable {h : Hp} {S : Set'}

theorem Rep.dflt : ∀ {t : Ty}, zOk t = true → ∀ l, Rep h S l t (E.dflt t) (zeroC t) []
  | .int _, _, _ | .bool, _, _ | .str, _, _ | .unit, _, _ => ⟨rfl, rfl⟩
  | .pair a b, hz, l => by
    simp only [zOk, Bool.and_eq_true] at hz
    exact ⟨_, _, [], [], rfl, rfl, Rep.dflt hz.1 l, Rep.dflt hz.2 l⟩
  | .arr n t, hz, l => ⟨by simp [E.dflt], RL.replicate (Rep.dflt (t := t) hz l) n⟩
  | .sl o t, _, _ => ⟨none, 0, rfl, Nat.zero_le _, .inl ⟨rfl, rfl, rfl, rfl⟩⟩
  | .ptr o t, _, _ => ⟨rfl, rfl⟩
  | .ref _ _, hz, _ | .map _ _ _, hz, _ => by simp [zOk] at hz

/-- a flat value's part -/
theorem fldGet_rep : ∀ {t : Ty} {x : den t} {i : Nat} {p : Pt} {cs : List Value} {l : Bool} {X : List Nat}, fldGet t x i = some p → Rep h S l t x cs X →
    ∃ Y, (∀ b ∈ Y, b ∈ X) ∧ Rep h S l p.t p.a ((cs.drop p.o).take p.t.size) Y ∧ p.o + p.t.size ≤ cs.length
  | .pair a b, x, 0, p, cs, l, X, hg, ⟨c1, c2, X1, X2, h1, h2, h3, h4⟩ => by
    simp [fldGet] at hg
    subst hg
    have hl := h3.len
    refine ⟨X1, by subst h2; intro b hb; simp [hb], ?_, by simp [h1, hl]⟩
    rw [h1]; simpa [← hl] using h3
  | .pair a b, x, n + 1, p, cs, l, X, hg, ⟨c1, c2, X1, X2, h1, h2, h3, h4⟩ => by
    simp only [fldGet] at hg
    cases hf : fldGet b x.2 n with
    | none => simp [hf] at hg
    | some q =>
      simp [hf] at hg
      subst hg
      have hl := h3.len
      obtain ⟨Y, hY, hR, hle⟩ := fldGet_rep hf h4
      refine ⟨Y, by subst h2; intro b hb; simp [hY b hb], ?_, by simp [h1, hl]; omega⟩
      have : cs.drop (a.size + q.o) = c2.drop q.o := by rw [h1, ← List.drop_drop]; simp [← hl]
      simp only [this]; exact hR
  | .int _, _, _, _, _, _, _, hg, _ | .bool, _, _, _, _, _, _, hg, _ | .str, _, _, _, _, _, _, hg, _ | .unit, _, _, _, _, _, _, hg, _ | .arr _ _, _, _, _, _, _, _, hg, _ | .sl _ _, _, _, _, _, _, _, hg, _ | .ptr _ _, _, _, _, _, _, _, hg, _ | .ref _ _, _, _, _, _, _, _, hg, _ | .map _ _ _, _, _, _, _, _, _, hg, _ => by
    simp [fldGet] at hg

theorem selGet_rep : ∀ {s : List Sel} {t : Ty} {x : den t} {p : Pt} {cs : List Value} {l : Bool} {X : List Nat}, selGet s t x = some p → selOk s t → Rep h S l t x cs X →
    ∃ Y, (∀ b ∈ Y, b ∈ X) ∧ Rep h S l p.t p.a ((cs.drop p.o).take p.t.size) Y ∧ p.o + p.t.size ≤ cs.length
  | [], t, x, p, cs, l, X, hg, _, hr => by
    simp [selGet] at hg
    subst hg
    have := hr.len
    exact ⟨X, fun _ h => h, by simpa [← this] using hr, by simp [this]⟩
  | .f i :: s, t, x, p, cs, l, X, hg, hok, hr => by
    simp only [selGet] at hg
    cases hf : fldGet t x i with
    | none => simp [hf] at hg
    | some q =>
      simp only [hf] at hg
      have ho := fldGet_off t x i q hf
      simp only [selOk, ho] at hok
      cases hs : selGet s q.t q.a with
      | none => simp [hs] at hg
      | some q' =>
        simp [hs] at hg
        subst hg
        obtain ⟨Y, hY, hR, hle⟩ := fldGet_rep hf hr
        obtain ⟨Z, hZ, hR', hle'⟩ := selGet_rep hs hok hR
        have hlq := hR.len
        rw [hlq] at hle'
        refine ⟨Z, fun b hb => hY b (hZ b hb), ?_, by simp; omega⟩
        have : (List.take q'.t.size (List.drop q'.o (List.take q.t.size (List.drop q.o cs)))) = List.take q'.t.size (List.drop (q.o + q'.o) cs) := by
          rw [List.drop_take, List.take_take, List.drop_drop]
          congr 1; omega
        rw [this] at hR'; exact hR'
  | .i n :: s, .arr m t, x, p, cs, l, X, hg, hok, ⟨hlen, hr⟩ => by
    simp only [selGet] at hg
    cases hs : selGet s t (List.getD x n (E.dflt t)) with
    | none => rw [hs] at hg; simp at hg
    | some q' =>
      rw [hs] at hg; simp at hg
      subst hg
      obtain ⟨hn, hok⟩ := hok
      obtain ⟨Y, hY, _, hR, hle⟩ := RL.get (fun _ _ _ => Rep.len) (E.dflt t) n (by rw [hlen]; exact hn) hr
      obtain ⟨Z, hZ, hR', hle'⟩ := selGet_rep hs hok hR
      have hlq := hR.len
      rw [hlq] at hle'
      refine ⟨Z, fun b hb => hY b (hZ b hb), ?_, by simp; omega⟩
      have : (List.take q'.t.size (List.drop q'.o (List.take t.size (List.drop (n * t.size) cs)))) = List.take q'.t.size (List.drop (n * t.size + q'.o) cs) := by
        rw [List.drop_take, List.take_take, List.drop_drop]
        congr 1; omega
      rw [this] at hR'; exact hR'
  | .i n :: s, .int _, _, _, _, _, _, hg, _, _ | .i n :: s, .bool, _, _, _, _, _, hg, _, _ | .i n :: s, .str, _, _, _, _, _, hg, _, _ | .i n :: s, .unit, _, _, _, _, _, hg, _, _ | .i n :: s, .pair _ _, _, _, _, _, _, hg, _, _
  | .i n :: s, .sl _ _, _, _, _, _, _, hg, _, _ | .i n :: s, .ptr _ _, _, _, _, _, _, hg, _, _ | .i n :: s, .ref _ _, _, _, _, _, _, hg, _, _ | .i n :: s, .map _ _ _, _, _, _, _, _, hg, _, _ => by simp [selGet] at hg

theorem fldSet_rep : ∀ {t : Ty} {x : den t} {i : Nat} {f : (u : Ty) → den u → Option (den u)} {z : den t}, fldSet t x i f = some z →
    ∃ o a, ∃ (v w : den a), fldOff t i = some (o, a) ∧ f a v = some w ∧ ∀ (l : Bool) (cs : List Value) (X : List Nat), Rep h S l t x cs X → ∀ c,
      (∀ Y, Rep h S l a v ((cs.drop o).take a.size) Y → Rep h S l a w c Y) → Rep h S l t z (cs.take o ++ c ++ cs.drop (o + a.size)) X
  | .pair a b, x, 0, f, z, hs => by
    simp only [fldSet] at hs
    cases hf : f a x.1 with
    | none => simp [hf] at hs
    | some y =>
      simp [hf] at hs
      subst hs
      refine ⟨0, a, x.1, y, rfl, hf, ?_⟩
      rintro l cs X ⟨c1, c2, X1, X2, h1, h2, h3, h4⟩ c hc
      have hl := h3.len
      refine ⟨c, c2, X1, X2, ?_, h2, hc X1 ?_, h4⟩
      · rw [h1]; simp [← hl]
      · rw [h1]; simpa [← hl] using h3
  | .pair a b, x, n + 1, f, z, hs => by
    simp only [fldSet] at hs
    cases hf : fldSet b x.2 n f with
    | none => simp [hf] at hs
    | some y =>
      simp [hf] at hs
      subst hs
      obtain ⟨o, u, v, w, ho, hfw, hrep⟩ := fldSet_rep hf
      refine ⟨a.size + o, u, v, w, by simp [fldOff, ho], hfw, ?_⟩
      rintro l cs X ⟨c1, c2, X1, X2, h1, h2, h3, h4⟩ c hc
      have hl := h3.len
      refine ⟨c1, _, X1, X2, ?_, h2, h3, hrep l c2 X2 h4 c ?_⟩
      · rw [h1, ← hl, List.take_append, List.drop_append]
        have e1 : c1.length + o + u.size - c1.length = o + u.size := by omega
        simp [List.take_of_length_le, List.drop_of_length_le, Nat.add_assoc, e1]
      · intro Y hY
        refine hc Y ?_
        have : List.drop (a.size + o) cs = List.drop o c2 := by rw [h1, ← List.drop_drop, ← hl]; simp
        rw [this]; exact hY
  | .int _, _, _, _, _, hs | .bool, _, _, _, _, hs | .str, _, _, _, _, hs | .unit, _, _, _, _, hs | .arr _ _, _, _, _, _, hs | .sl _ _, _, _, _, _, hs | .ptr _ _, _, _, _, _, hs | .ref _ _, _, _, _, _, hs | .map _ _ _, _, _, _, _, hs => by
    simp [fldSet] at hs

theorem cast?_some {t u : Ty} {a : den t} {b : den u} (h : cast? u a = some b) : t = u ∧ HEq a b := by
  unfold cast? at h
  split at h
  · rename_i he
    have := tyEq_iff he
    subst this
    simp at h
    exact ⟨rfl, heq_of_eq h⟩
  · cases h

theorem cast?_eq {t : Ty} {a b : den t} (h : cast? t a = some b) : a = b := eq_of_heq (cast?_some h).2

theorem selSet_rep : ∀ {s : List Sel} {u : Ty} {y : den u} {t : Ty} {x z : den t}, selSet s u y t x = some z → u.flat = true →
    ∃ o, selOff s t = some (o, u) ∧ ∀ (l : Bool) (cs : List Value) (X : List Nat), selOk s t → Rep h S l t x cs X → ∀ c,
      Rep h S l u y c [] → Rep h S l t z (cs.take o ++ c ++ cs.drop (o + u.size)) X
  | [], u, y, t, x, z, hs, hf => by
    simp only [selSet] at hs
    obtain ⟨rfl, he⟩ := cast?_some hs
    have := eq_of_heq he
    subst this
    refine ⟨0, rfl, ?_⟩
    intro l cs X _ hr c hc
    have hl := hr.len
    have hX := (Rep.flat hf hr).1
    subst hX
    simpa [hl, List.drop_of_length_le] using hc
  | .f i :: s, u, y, t, x, z, hs, hf => by
    simp only [selSet] at hs
    obtain ⟨o, a, v, w, ho, hfw, hrep⟩ := fldSet_rep (h := h) (S := S) hs
    obtain ⟨o', ho', hrep'⟩ := selSet_rep hfw hf
    refine ⟨o + o', by simp [selOff, ho, ho'], ?_⟩
    intro l cs X hok hr c hc
    simp only [selOk, ho] at hok
    have hz := hrep l cs X hr (((cs.drop o).take a.size).take o' ++ c ++ ((cs.drop o).take a.size).drop (o' + u.size)) (fun Y hY => hrep' l _ Y hok hY c hc)
    have h2 := hr.len
    have hb1 := fldOff_le ho
    have hb2 := selOff_le ho' hok
    have e := seg_seg cs c o a.size o' u.size (by omega) (by omega)
    rw [e] at hz; exact hz
  | .i n :: s, u, y, .arr m t, x, z, hs, hf => by
    simp only [selSet] at hs
    cases hg : selSet s u y t (List.getD x n (E.dflt t)) with
    | none => rw [hg] at hs; simp at hs
    | some w =>
      rw [hg] at hs; simp at hs
      subst hs
      obtain ⟨o', ho', hrep'⟩ := selSet_rep hg hf
      refine ⟨n * t.size + o', by simp [selOff, ho'], ?_⟩
      rintro l cs X ⟨hn, hok⟩ ⟨hlen, hr⟩ c hc
      refine ⟨by simpa using hlen, ?_⟩
      have hz := RL.set (fun _ _ _ => Rep.len) (E.dflt t) n w _ (by rw [hlen]; exact hn) (fun Y hY => hrep' l _ Y hok hY c hc) hr
      have hb2 := selOff_le ho' hok
      have hl := RL.len (fun _ _ _ => Rep.len) hr
      have e := seg_seg cs c (n * t.size) t.size o' u.size (by omega) (by
        rw [hl, hlen, ← Nat.succ_mul]; exact Nat.mul_le_mul_right _ hn)
      rw [e] at hz; exact hz
  | .i n :: s, _, _, .int _, _, _, hs, _ | .i n :: s, _, _, .bool, _, _, hs, _ | .i n :: s, _, _, .str, _, _, hs, _ | .i n :: s, _, _, .unit, _, _, hs, _ | .i n :: s, _, _, .pair _ _, _, _, hs, _
  | .i n :: s, _, _, .sl _ _, _, _, hs, _ | .i n :: s, _, _, .ptr _ _, _, _, hs, _ | .i n :: s, _, _, .ref _ _, _, _, hs, _ | .i n :: s, _, _, .map _ _ _, _, _, hs, _ => by simp [selSet] at hs

end

theorem rep_any {h : Hp} {S : Set'} : ∀ {t : Ty} {x : den t} {cs : List Value} {l : Bool}, t.flat = true → Rep h S true t x cs [] → Rep h S l t x cs []
  | .int _, _, _, _, _, hr | .bool, _, _, _, _, hr | .str, _, _, _, _, hr | .unit, _, _, _, _, hr => hr
  | .pair a b, _, _, _, hf, ⟨c1, c2, X1, X2, h1, h2, h3, h4⟩ => by
    simp only [Ty.flat, Bool.and_eq_true] at hf
    simp only [List.nil_eq, List.append_eq_nil_iff] at h2
    obtain ⟨rfl, rfl⟩ := h2
    exact ⟨c1, c2, [], [], h1, rfl, rep_any hf.1 h3, rep_any hf.2 h4⟩
  | .arr _ t, _, _, _, hf, ⟨h1, h2⟩ =>
    ⟨h1, RL.mono_mem (fun x c Y _ hY hr => by
      have : Y = [] := by cases Y with | nil => rfl | cons b Y => exact absurd (hY b (by simp)) (by simp)
      subst this
      exact rep_any (t := t) hf hr) h2⟩
  | .sl o t, _, _, l, hf, ⟨a, c, h1, h2, hr⟩ => by
    simp only [Ty.flat, Bool.and_eq_true, Bool.not_eq_true'] at hf
    refine ⟨a, c, h1, h2, ?_⟩
    rcases hr with h | ⟨b, of, arr, E, fr, X', e1, e2, e3, e4, hx⟩
    · exact .inl h
    · simp only [Bool.not_true, Bool.and_false, Bool.false_eq_true, if_false] at hx
      obtain ⟨hS, _, rfl⟩ := hx
      refine .inr ⟨b, of, arr, E, fr, [], e1, e2, e3, ?_, by simp [hf.1, hS]⟩
      exact RL.mono_mem (fun x c Y _ hY hr => by
        have : Y = [] := by cases Y with | nil => rfl | cons b Y => exact absurd (hY b (by simp)) (by simp)
        subst this
        exact rep_any (t := t) hf.2 hr) e4
  | .ptr _ _, none, _, _, _, hr => hr
  | .ptr o t, some _, _, l, hf, ⟨b, of, arr, E, fr, X', h1, h2, h2', h3, hx⟩ => by
    simp only [Ty.flat, Bool.and_eq_true, Bool.not_eq_true'] at hf
    simp only [Bool.not_true, Bool.and_false, Bool.false_eq_true, if_false] at hx
    obtain ⟨hS, _, rfl⟩ := hx
    exact ⟨b, of, arr, E, fr, [], h1, h2, h2', rep_any (t := t) hf.2 h3, by simp [hf.1, hS]⟩
  | .ref o t, _, _, l, hf, ⟨b, of, arr, E, fr, X', h1, h2, h2', h3, hx⟩ => by
    simp only [Ty.flat, Bool.and_eq_true, Bool.not_eq_true'] at hf
    simp only [Bool.not_true, Bool.and_false, Bool.false_eq_true, if_false] at hx
    obtain ⟨hS, _, rfl⟩ := hx
    exact ⟨b, of, arr, E, fr, [], h1, h2, h2', rep_any (t := t) hf.2 h3, by simp [hf.1, hS]⟩
  | .map o k v, _, _, l, hf, ⟨b, ents, clock, X', h1, h2, h3, hx⟩ => by
    simp only [Ty.flat, Bool.and_eq_true, Bool.not_eq_true'] at hf
    simp only [Bool.not_true, Bool.and_false, Bool.false_eq_true, if_false] at hx
    obtain ⟨hS, _, rfl⟩ := hx
    exact ⟨b, ents, clock, [], h1, h2, RM.mono_mem (fun x c hr => rep_any (t := k) hf.1.2 hr) (fun x c Y hY hr => by
      have : Y = [] := by cases Y with | nil => rfl | cons b Y => exact absurd (hY b (by simp)) (by simp)
      subst this
      exact rep_any (t := v) hf.2 hr) h3, by simp [hf.1.1, hS]⟩

end Go.Proofs.Ytnffdeokhcojfaa.E

namespace Go.Proofs.Ytnffdeokhcojfaa.E
open Go
set_option linter.unusedSimpArgs false
set_option linter.unusedVariables false

def hpOf (w : World) : Hp := fun b => w.heap[b]?

/-- what a world has beside its memory -/
def restOf (w : World) : Os × Array (Nat × ByteArray) := (w.os, w.output)

structure Ctx where
  P : Program
  T : Tab
  h : Hp
  n : Nat
  L : Set'
  I : Set'
  X : Set'
  z : Os × Array (Nat × ByteArray)
  Iok : ∀ b, I b → b < n ∧ ¬ X b
  Lok : ∀ b, L b → b < n ∧ ¬ X b
  ok : ∀ t i, T t = some i → P.underlying t = some i.d ∧ ∃ j z, P.info? t = some j ∧ j.size = i.size ∧ j.bytes = i.bytes ∧ j.zero = some z ∧ z.cells.toList = i.zero

/-- where what is read may lie -/
def Sx (L I : Set') (len : Bool) : Set' := fun b => I b ∨ (len = true ∧ L b)

def ptrOf (v : Value) (o : Nat) : Value :=
  match v with
  | .pointer (some a) => .pointer (some ⟨a.block, a.off + o, none⟩)
  | .slice (some a) _ _ => .pointer (some ⟨a.block, a.off + o, none⟩)
  | _ => undef

def Root.off (s : List Sel) : Root → Option (Nat × Ty)
  | .box _ t _ => selOff s t
  | .arr _ t _ => match s with
    | .i n :: s => match selOff s t with | some (o, u) => some (n * t.size + o, u) | none => none
    | _ => none

def Root.ok (s : List Sel) : Root → Prop
  | .box _ t _ => selOk s t
  | .arr _ t xs => match s with
    | .i n :: s => n < xs.length ∧ selOk s t
    | _ => False

/-- one shape -/
def Root.like : Root → Root → Prop
  | .box _ t _, .box _ u _ => t = u
  | .arr _ t xs, .arr _ u ys => t = u ∧ xs.length = ys.length
  | _, _ => False

def RootR (h : Hp) (L I : Set') (β : Value) : Root → List Nat → Prop
  | .box l t a, X => Rep h (Sx L I l) false (.ref true t) a [β] X
  | .arr l t xs, X => Rep h (Sx L I l) false (.sl true t) xs [β] X

/-- a part of a slice -/
def subOf (v : Value) (sz lo n : Nat) (u : Value) : Prop :=
  ∃ a m c a' c', v = .slice a m c ∧ u = .slice a' n c' ∧ n ≤ c' ∧ lo + c' ≤ c ∧
    ((a = a ∧ a' = a' ∧ c' = 0) ∨ ∃ b o k, a = some ⟨b, o, none⟩ ∧ a' = some ⟨b, o + k * sz, none⟩ ∧ k + c' ≤ c ∧ (c' = 0 ∨ k = lo))

def SVR0 (h : Hp) (L I : Set') (β : Nat → Value) (ρ : List (Nat × Root)) : SV → Value → Prop
  | .x, _ => True
  | .np, v => v = .pointer none
  | .nl, v => ∃ a, v = .slice a 0 0
  | .v len t a, v => ∃ cs, Rep h (Sx L I len) true t a cs [] ∧ v = wrapV t cs
  | .q len t a, v => Rep h (Sx L I len) true (.ref false t) a [v] []
  | .p r s, v => ∃ R o u, look ρ r = some R ∧ R.off s = some (o, u) ∧ R.ok s ∧ v = ptrOf (β r) o
  | .sf r, v => ∃ l t xs, look ρ r = some (.arr l t xs) ∧ v = β r
  | .s r lo n, v => ∃ l t xs, look ρ r = some (.arr l t xs) ∧ lo + n ≤ xs.length ∧ subOf (β r) t.size lo n v
  | .tup _, _ => False

def All2 {α β : Type} (R : α → β → Prop) : List α → List β → Prop
  | [], [] => True
  | a :: l, b :: m => R a b ∧ All2 R l m
  | _, _ => False

def SVR (h : Hp) (L I : Set') (β : Nat → Value) (ρ : List (Nat × Root)) : SV → Value → Prop
  | .tup l, v => ∃ vs : List Value, v = .tuple vs.toArray ∧ All2 (SVR0 h L I β ρ) l vs
  | sv, v => SVR0 h L I β ρ sv v

theorem SVR_of0 {h L I β ρ sv v} (hs : SVR0 h L I β ρ sv v) : SVR h L I β ρ sv v := by
  cases sv <;> first | exact hs | exact hs.elim

structure Inv (C : Ctx) (I : Set') (β : Nat → Value) (F : Nat → List Nat) (σ : St) (w : World) (tm : Array Value) : Prop where
  size : tm.size = σ.n
  slots : ∀ i, SVR (hpOf w) C.L I β σ.r (find σ.t i) (tm.getD i undef)
  conds : ∀ k e u v, (k, e, u, v) ∈ σ.c → tm.getD e undef = .bool u → SVR (hpOf w) C.L I β σ.r v (tm.getD k undef)
  undefs : ∀ k e u v, (k, e, u, v) ∈ σ.c → tm.getD e undef ≠ .bool u → tm.getD k undef = undef
  roots : ∀ r R, look σ.r r = some R → RootR (hpOf w) C.L I (β r) R (F r)
  nodup : ∀ r R, look σ.r r = some R → (F r).Nodup
  disj : ∀ r r' R R', r ≠ r' → look σ.r r = some R → look σ.r r' = some R' → ∀ b ∈ F r, b ∉ F r'
  own : ∀ r R, look σ.r r = some R → ∀ b ∈ F r, ¬ I b ∧ ¬ C.L b ∧ b < w.heap.size ∧ (C.X b ∨ C.n ≤ b)
  shared : ∀ b, I b → b < w.heap.size ∧ (C.I b ∨ C.X b ∨ C.n ≤ b)
  sub : ∀ b, C.I b → I b
  frame : ∀ b, b < C.n → ¬ C.X b → hpOf w b = C.h b
  grow : C.n ≤ w.heap.size
  rest : restOf w = C.z

/-! look, del, upd -/

theorem nbeq {a b : Nat} (h : a ≠ b) : Nat.beq a b = false := by
  cases e : Nat.beq a b with
  | true => exact (h (Nat.eq_of_beq_eq_true e)).elim
  | false => rfl

theorem look_del_ne {l : List (Nat × Root)} {r n : Nat} (h : r ≠ n) : look (del l n) r = look l r := by
  induction l with
  | nil => rfl
  | cons p l ih =>
    obtain ⟨k, v⟩ := p
    simp only [del, look]
    by_cases hk : k = n
    · subst hk
      have : Nat.beq k r = false := nbeq fun e => h e.symm
      simp [this, ih, Nat.beq_refl]
    · have : Nat.beq k n = false := nbeq hk
      simp only [this, look]
      rw [ih]

theorem look_del_same {l : List (Nat × Root)} {n : Nat} : look (del l n) n = none := by
  induction l with
  | nil => rfl
  | cons p l ih =>
    obtain ⟨k, v⟩ := p
    simp only [del]
    by_cases hk : k = n
    · subst hk; simp [ih]
    · have : Nat.beq k n = false := nbeq hk
      simp only [this, look]
      exact ih

theorem look_del {l : List (Nat × Root)} {r n : Nat} {R : Root} (h : look (del l n) r = some R) : r ≠ n ∧ look l r = some R := by
  by_cases e : r = n
  · subst e; rw [look_del_same] at h; cases h
  · exact ⟨e, by rwa [look_del_ne e] at h⟩

theorem look_upd_ne {l : List (Nat × Root)} {r n : Nat} {R : Root} (h : r ≠ n) : look (upd l n R) r = look l r := by
  induction l with
  | nil => rfl
  | cons p l ih =>
    obtain ⟨k, v⟩ := p
    simp only [upd, look]
    by_cases hk : k = n
    · subst hk
      have : Nat.beq k r = false := nbeq fun e => h e.symm
      simp [this, look, Nat.beq_refl]
    · have : Nat.beq k n = false := nbeq hk
      simp only [this, look]
      rw [ih]

theorem look_upd_same {l : List (Nat × Root)} {n : Nat} {R R' : Root} (h : look l n = some R') : look (upd l n R) n = some R := by
  induction l with
  | nil => cases h
  | cons p l ih =>
    obtain ⟨k, v⟩ := p
    simp only [upd]
    by_cases hk : k = n
    · subst hk; simp [look]
    · have : Nat.beq k n = false := nbeq hk
      simp only [this, look] at h ⊢
      exact ih h

theorem look_cons_same {l : List (Nat × Root)} {n : Nat} {R : Root} : look ((n, R) :: l) n = some R := by simp [look]
theorem look_cons_ne {l : List (Nat × Root)} {n r : Nat} {R : Root} (h : r ≠ n) : look ((n, R) :: l) r = look l r := by
  have : Nat.beq n r = false := nbeq fun e => h e.symm
  simp [look, this]

theorem find_mapT {f : SV → SV} (hf : f .x = .x) : ∀ (l : List (Nat × SV)) (i : Nat), find (mapT f l) i = f (find l i)
  | [], i => by simp [mapT, find, hf]
  | (k, v) :: l, i => by
    simp only [mapT, find]
    cases Nat.beq k i with
    | true => rfl
    | false => exact find_mapT hf l i

theorem find_cons_same {l : List (Nat × SV)} {n : Nat} {sv : SV} : find ((n, sv) :: l) n = sv := by simp [find]
theorem find_cons_ne {l : List (Nat × SV)} {n i : Nat} {sv : SV} (h : i ≠ n) : find ((n, sv) :: l) i = find l i := by
  have : Nat.beq n i = false := nbeq fun e => h e.symm
  simp [find, this]

theorem force_eq {α : Type} (sv : SV) (k : SV → α) : sv.force k = k sv := by cases sv <;> rfl

/-! what is known stays known -/

section
variable {h h' : Hp} {L I I' : Set'} {β β' : Nat → Value} {ρ ρ' : List (Nat × Root)}

theorem Sx.mono (hI : ∀ b, I b → I' b ∧ h' b = h b) (hL : ∀ b, L b → h' b = h b) (len : Bool) : ∀ b, Sx L I len b → Sx L I' len b ∧ h' b = h b := by
  rintro b (hb | ⟨hl, hb⟩)
  · exact ⟨.inl (hI b hb).1, (hI b hb).2⟩
  · exact ⟨.inr ⟨hl, hb⟩, hL b hb⟩

theorem Root.like.off {R R' : Root} (hl : R.like R') (s : List Sel) : R.off s = R'.off s := by
  cases R <;> cases R' <;> simp only [Root.like] at hl
  · subst hl; rfl
  · obtain ⟨rfl, _⟩ := hl; rfl

theorem Root.like.ok {R R' : Root} (hl : R.like R') (s : List Sel) (hk : R.ok s) : R'.ok s := by
  cases R <;> cases R' <;> simp only [Root.like] at hl
  · subst hl; exact hk
  · obtain ⟨rfl, hlen⟩ := hl
    cases s with
    | nil => exact hk
    | cons a s => cases a with
      | f i => exact hk
      | i n => exact ⟨hlen ▸ hk.1, hk.2⟩

theorem SVR0.mono {sv : SV} {v : Value} (hI : ∀ b, I b → I' b ∧ h' b = h b) (hL : ∀ b, L b → h' b = h b)
    (hr : ∀ r R, sv.uses0 r = true → look ρ r = some R → ∃ R', look ρ' r = some R' ∧ R.like R' ∧ β' r = β r) (hs : SVR0 h L I β ρ sv v) : SVR0 h' L I' β' ρ' sv v := by
  cases sv with
  | x => trivial
  | np => exact hs
  | nl => exact hs
  | v len t a =>
    obtain ⟨cs, hr', hv⟩ := hs
    exact ⟨cs, Rep.keep (Sx.mono hI hL len) (by simp) hr', hv⟩
  | q len t a => exact Rep.keep (Sx.mono hI hL len) (by simp) hs
  | p r s =>
    obtain ⟨R, o, u, h1, h2, h3, h4⟩ := hs
    obtain ⟨R', e1, e2, e3⟩ := hr r R (by simp [SV.uses0]) h1
    exact ⟨R', o, u, e1, by rw [← e2.off]; exact h2, e2.ok s h3, by rw [e3]; exact h4⟩
  | sf r =>
    obtain ⟨l, t, xs, h1, h2⟩ := hs
    obtain ⟨R', e1, e2, e3⟩ := hr r _ (by simp [SV.uses0]) h1
    cases R' with
    | box => exact e2.elim
    | arr l' t' ys => exact ⟨l', t', ys, e1, by rw [e3]; exact h2⟩
  | s r lo n =>
    obtain ⟨l, t, xs, h1, h2, h3⟩ := hs
    obtain ⟨R', e1, e2, e3⟩ := hr r _ (by simp [SV.uses0]) h1
    cases R' with
    | box => exact e2.elim
    | arr l' t' ys =>
      obtain ⟨rfl, hlen⟩ := e2
      exact ⟨l', t, ys, e1, hlen ▸ h2, by rw [e3]; exact h3⟩
  | tup l => exact hs.elim

theorem All2.imp {α β : Type} {R R' : α → β → Prop} : ∀ {l : List α} {m : List β}, (∀ a ∈ l, ∀ b, R a b → R' a b) → All2 R l m → All2 R' l m
  | [], [], _, _ => trivial
  | _ :: _, [], _, h => h.elim
  | [], _ :: _, _, h => h.elim
  | a :: l, b :: m, hi, ⟨h1, h2⟩ => ⟨hi a (by simp) b h1, All2.imp (fun a ha => hi a (by simp [ha])) h2⟩

theorem anyUses0_mem {r : Nat} : ∀ {l : List SV} {v : SV}, v ∈ l → v.uses0 r = true → anyUses0 r l = true
  | w :: l, v, hm, hu => by
    simp only [anyUses0, Bool.or_eq_true]
    rcases List.mem_cons.1 hm with rfl | hm
    · exact .inl hu
    · exact .inr (anyUses0_mem hm hu)

theorem SVR.mono {sv : SV} {v : Value} (hI : ∀ b, I b → I' b ∧ h' b = h b) (hL : ∀ b, L b → h' b = h b)
    (hr : ∀ r R, sv.uses r = true → look ρ r = some R → ∃ R', look ρ' r = some R' ∧ R.like R' ∧ β' r = β r) (hs : SVR h L I β ρ sv v) : SVR h' L I' β' ρ' sv v := by
  cases sv with
  | tup l =>
    obtain ⟨vs, hv, ha⟩ := hs
    exact ⟨vs, hv, ha.imp fun a hm b => SVR0.mono hI hL fun r R hu hl => hr r R (anyUses0_mem hm hu) hl⟩
  | x => exact trivial
  | np => exact SVR0.mono (sv := .np) hI hL (fun r R hu => hr r R hu) hs
  | nl => exact SVR0.mono (sv := .nl) hI hL (fun r R hu => hr r R hu) hs
  | v l t a => exact SVR0.mono (sv := .v l t a) hI hL (fun r R hu => hr r R hu) hs
  | q l t a => exact SVR0.mono (sv := .q l t a) hI hL (fun r R hu => hr r R hu) hs
  | p k z => exact SVR0.mono (sv := .p k z) hI hL (fun r R hu => hr r R hu) hs
  | sf k => exact SVR0.mono (sv := .sf k) hI hL (fun r R hu => hr r R hu) hs
  | s k lo n => exact SVR0.mono (sv := .s k lo n) hI hL (fun r R hu => hr r R hu) hs

end

theorem Root.like.refl (R : Root) : R.like R := by cases R <;> simp [Root.like]

/-! the state behind a step -/

section
variable {C : Ctx} {I : Set'} {β : Nat → Value} {F : Nat → List Nat} {σ : St} {w : World} {tm : Array Value}

/-- nothing that is shared or lent is owned -/
theorem Inv.away (hi : Inv C I β F σ w tm) {r : Nat} {R : Root} (hr : look σ.r r = some R) : ∀ b ∈ F r, ¬ I b ∧ ¬ C.L b := fun b hb => ⟨(hi.own r R hr b hb).1, (hi.own r R hr b hb).2.1⟩

/-- the heap is as it was -/
theorem Inv.same (hi : Inv C I β F σ w tm) {w' : World} (hw : w'.heap = w.heap) (hz : restOf w' = restOf w := by rfl) : Inv C I β F σ w' tm := by
  have e : hpOf w' = hpOf w := by funext b; simp [hpOf, hw]
  have es : w'.heap.size = w.heap.size := by rw [hw]
  constructor
  case size => exact hi.size
  case slots => intro i; rw [e]; exact hi.slots i
  case conds => intro k d u v hm hd; rw [e]; exact hi.conds k d u v hm hd
  case undefs => exact hi.undefs
  case roots => intro r R hr; rw [e]; exact hi.roots r R hr
  case nodup => exact hi.nodup
  case disj => exact hi.disj
  case own => rw [es]; exact hi.own
  case shared => rw [es]; exact hi.shared
  case sub => exact hi.sub
  case frame => rw [e]; exact hi.frame
  case grow => rw [es]; exact hi.grow
  case rest => rw [hz]; exact hi.rest

theorem killF_x (r : Nat) : killF r .x = .x := by simp [killF, SV.uses, SV.uses0]

theorem killF_uses {r : Nat} {sv : SV} : (killF r sv).uses r = false := by
  unfold killF
  cases h : sv.uses r with
  | true => simp [SV.uses, SV.uses0]
  | false => simpa using h

theorem killF_imp {h L I β ρ r sv v} (hs : SVR h L I β ρ sv v) : SVR h L I β ρ (killF r sv) v := by
  unfold killF
  cases sv.uses r with
  | true => trivial
  | false => exact hs

/-- a root is let go -/
theorem Inv.kill (hi : Inv C I β F σ w tm) (r : Nat) : Inv C I β F (σ.kill r) w tm := by
  constructor
  case size => exact hi.size
  case slots =>
    intro i
    simp only [St.kill]
    rw [find_mapT (killF_x r)]
    refine SVR.mono (fun b hb => ⟨hb, rfl⟩) (fun b _ => rfl) ?_ (killF_imp (r := r) (hi.slots i))
    intro k R hu hl
    have hne : k ≠ r := by rintro rfl; rw [killF_uses] at hu; cases hu
    exact ⟨R, by rw [look_del_ne hne]; exact hl, Root.like.refl R, rfl⟩
  case conds => intro k e u v hm; simp [St.kill] at hm
  case undefs => intro k e u v hm; simp [St.kill] at hm
  case roots => intro k R hl; exact hi.roots k R (look_del hl).2
  case nodup => intro k R hl; exact hi.nodup k R (look_del hl).2
  case disj => intro k k' R R' hne hl hl'; exact hi.disj k k' R R' hne (look_del hl).2 (look_del hl').2
  case own => intro k R hl; exact hi.own k R (look_del hl).2
  case shared => exact hi.shared
  case sub => exact hi.sub
  case frame => exact hi.frame
  case grow => exact hi.grow
  case rest => exact hi.rest

def updF {α : Type} (f : Nat → α) (r : Nat) (a : α) : Nat → α := fun k => if k = r then a else f k
theorem updF_same {α : Type} (f : Nat → α) (r : Nat) (a : α) : updF f r a r = a := by simp [updF]
theorem updF_ne {α : Type} (f : Nat → α) {r k : Nat} (a : α) (h : k ≠ r) : updF f r a k = f k := by simp [updF, h]

/-- a new root: its blocks are new, or nobody's -/
theorem Inv.new (hi : Inv C I β F σ w tm) {w' : World} (r : Nat) (R : Root) (v : Value) (Y : List Nat) (hsz : w.heap.size ≤ w'.heap.size) (hz : restOf w' = restOf w)
    (hh : ∀ b, b < w.heap.size → b ∉ Y → hpOf w' b = hpOf w b) (hR : RootR (hpOf w') C.L I v R Y) (hY : Y.Nodup)
    (hown : ∀ b ∈ Y, ¬ I b ∧ ¬ C.L b ∧ b < w'.heap.size ∧ (C.X b ∨ C.n ≤ b))
    (hdis : ∀ k R', k ≠ r → look σ.r k = some R' → ∀ b ∈ F k, b ∉ Y) : Inv C I (updF β r v) (updF F r Y) (σ.new r R) w' tm := by
  have hI : ∀ b, I b → I b ∧ hpOf w' b = hpOf w b := fun b hb => ⟨hb, hh b (hi.shared b hb).1 fun hm => (hown b hm).1 hb⟩
  have hL : ∀ b, C.L b → hpOf w' b = hpOf w b := fun b hb => hh b (Nat.lt_of_lt_of_le (C.Lok b hb).1 hi.grow) fun hm => (hown b hm).2.1 hb
  have hold : ∀ k R', k ≠ r → look σ.r k = some R' → RootR (hpOf w') C.L I (β k) R' (F k) := by
    intro k R' hne hl
    have h1 := hi.roots k R' hl
    have hF : ∀ b ∈ F k, hpOf w' b = hpOf w b := fun b hb => hh b (hi.own k R' hl b hb).2.2.1 (hdis k R' hne hl b hb)
    cases R' with
    | box l t a => exact Rep.keep (Sx.mono hI hL l) hF h1
    | arr l t xs => exact Rep.keep (Sx.mono hI hL l) hF h1
  have hlook : ∀ {k R'}, look (σ.new r R).r k = some R' → (k = r ∧ R' = R) ∨ (k ≠ r ∧ look σ.r k = some R') := by
    intro k R' hl
    simp only [St.new] at hl
    by_cases e : k = r
    · subst e
      rw [look_cons_same] at hl
      exact .inl ⟨rfl, (Option.some.inj hl).symm⟩
    · rw [look_cons_ne e] at hl
      exact .inr ⟨e, (look_del hl).2⟩
  constructor
  case size => exact hi.size
  case slots =>
    intro i
    simp only [St.new]
    rw [find_mapT (killF_x r)]
    refine SVR.mono hI hL ?_ (killF_imp (r := r) (hi.slots i))
    intro k R' hu hl
    have hne : k ≠ r := by rintro rfl; rw [killF_uses] at hu; cases hu
    exact ⟨R', by rw [look_cons_ne hne, look_del_ne hne]; exact hl, Root.like.refl R', updF_ne β v hne⟩
  case conds => intro k e u v hm; simp [St.new] at hm
  case undefs => intro k e u v hm; simp [St.new] at hm
  case roots =>
    intro k R' hl
    rcases hlook hl with ⟨rfl, rfl⟩ | ⟨hne, hl⟩
    · rw [updF_same, updF_same]; exact hR
    · rw [updF_ne _ _ hne, updF_ne _ _ hne]; exact hold k R' hne hl
  case nodup =>
    intro k R' hl
    rcases hlook hl with ⟨rfl, rfl⟩ | ⟨hne, hl⟩
    · rw [updF_same]; exact hY
    · rw [updF_ne _ _ hne]; exact hi.nodup k R' hl
  case disj =>
    intro k k' R1 R2 hne hl hl' b hb
    rcases hlook hl with ⟨rfl, rfl⟩ | ⟨hk, hl1⟩ <;> rcases hlook hl' with ⟨rfl, rfl⟩ | ⟨hk', hl1'⟩
    · exact (hne rfl).elim
    · rw [updF_same] at hb
      rw [updF_ne _ _ hk']
      exact fun hb' => hdis k' R2 hk' hl1' b hb' hb
    · rw [updF_ne _ _ hk] at hb
      rw [updF_same]
      exact hdis k R1 hk hl1 b hb
    · rw [updF_ne _ _ hk] at hb
      rw [updF_ne _ _ hk']
      exact hi.disj k k' R1 R2 hne hl1 hl1' b hb
  case own =>
    intro k R' hl b hb
    rcases hlook hl with ⟨rfl, rfl⟩ | ⟨hne, hl⟩
    · rw [updF_same] at hb; exact hown b hb
    · rw [updF_ne _ _ hne] at hb
      have := hi.own k R' hl b hb
      exact ⟨this.1, this.2.1, by omega, this.2.2.2⟩
  case shared => intro b hb; have := hi.shared b hb; exact ⟨by omega, this.2⟩
  case sub => exact hi.sub
  case frame =>
    intro b hb hX
    rw [hh b (Nat.lt_of_lt_of_le hb hi.grow) (fun hm => ?_)]
    · exact hi.frame b hb hX
    · rcases (hown b hm).2.2.2 with h | h
      · exact hX h
      · omega
  case grow => exact Nat.le_trans hi.grow hsz
  case rest => rw [hz]; exact hi.rest

/-- a root's own memory is written, in its shape -/
theorem Inv.write (hi : Inv C I β F σ w tm) {w' : World} {r : Nat} {R R' : Root} (hr : look σ.r r = some R) (hlike : R.like R') (hsz : w'.heap.size = w.heap.size) (hz : restOf w' = restOf w)
    (hh : ∀ b, b < w.heap.size → b ∉ F r → hpOf w' b = hpOf w b) (hR : RootR (hpOf w') C.L I (β r) R' (F r)) : Inv C I β F { σ with r := upd σ.r r R' } w' tm := by
  have hI : ∀ b, I b → I b ∧ hpOf w' b = hpOf w b := fun b hb => ⟨hb, hh b (hi.shared b hb).1 fun hm => (hi.own r R hr b hm).1 hb⟩
  have hL : ∀ b, C.L b → hpOf w' b = hpOf w b := fun b hb => hh b (Nat.lt_of_lt_of_le (C.Lok b hb).1 hi.grow) fun hm => (hi.own r R hr b hm).2.1 hb
  have hkeep : ∀ k R1, look σ.r k = some R1 → ∃ R2, look (upd σ.r r R') k = some R2 ∧ R1.like R2 ∧ β k = β k := by
    intro k R1 hl
    by_cases e : k = r
    · subst e
      rw [hr] at hl
      obtain rfl := Option.some.inj hl
      exact ⟨R', look_upd_same hr, hlike, rfl⟩
    · exact ⟨R1, by rw [look_upd_ne e]; exact hl, Root.like.refl R1, rfl⟩
  have hlook : ∀ {k R1}, look (upd σ.r r R') k = some R1 → (k = r ∧ R1 = R') ∨ (k ≠ r ∧ look σ.r k = some R1) := by
    intro k R1 hl
    by_cases e : k = r
    · subst e
      rw [look_upd_same hr] at hl
      exact .inl ⟨rfl, (Option.some.inj hl).symm⟩
    · rw [look_upd_ne e] at hl; exact .inr ⟨e, hl⟩
  have hold : ∀ {k R1}, look (upd σ.r r R') k = some R1 → ∃ R2, look σ.r k = some R2 := by
    intro k R1 hl
    rcases hlook hl with ⟨rfl, _⟩ | ⟨_, h⟩
    · exact ⟨R, hr⟩
    · exact ⟨_, h⟩
  constructor
  case size => exact hi.size
  case slots => intro i; exact SVR.mono hI hL (fun k R1 _ hl => hkeep k R1 hl) (hi.slots i)
  case conds => intro k e u v hm hd; exact SVR.mono hI hL (fun k R1 _ hl => hkeep k R1 hl) (hi.conds k e u v hm hd)
  case undefs => exact hi.undefs
  case roots =>
    intro k R1 hl
    rcases hlook hl with ⟨rfl, rfl⟩ | ⟨hne, hl⟩
    · exact hR
    · have h1 := hi.roots k R1 hl
      have hF : ∀ b ∈ F k, hpOf w' b = hpOf w b := fun b hb => hh b (hi.own k R1 hl b hb).2.2.1 (hi.disj k r R1 R hne hl hr b hb)
      cases R1 with
      | box l t a => exact Rep.keep (Sx.mono hI hL l) hF h1
      | arr l t xs => exact Rep.keep (Sx.mono hI hL l) hF h1
  case nodup => intro k R1 hl; obtain ⟨R2, h2⟩ := hold hl; exact hi.nodup k R2 h2
  case disj => intro k k' R1 R2 hne hl hl'; obtain ⟨R3, h3⟩ := hold hl; obtain ⟨R4, h4⟩ := hold hl'; exact hi.disj k k' R3 R4 hne h3 h4
  case own => intro k R1 hl; obtain ⟨R2, h2⟩ := hold hl; rw [hsz]; exact hi.own k R2 h2
  case shared => rw [hsz]; exact hi.shared
  case sub => exact hi.sub
  case frame =>
    intro b hb hX
    rw [hh b (Nat.lt_of_lt_of_le hb hi.grow) (fun hm => ?_)]
    · exact hi.frame b hb hX
    · rcases (hi.own r R hr b hm).2.2.2 with h | h
      · exact hX h
      · omega
  case grow => rw [hsz]; exact hi.grow
  case rest => rw [hz]; exact hi.rest

theorem unhang_mem {d k e : Nat} {u : Bool} {v' : SV} : ∀ {l : List (Nat × Nat × Bool × SV)}, (k, e, u, v') ∈ unhang d l → (k, e, u, v') ∈ l ∧ k ≠ d ∧ e ≠ d
  | [], h => by simp [unhang] at h
  | (k1, e1, u1, v1) :: l, h => by
    simp only [unhang] at h
    cases hb : (Nat.beq k1 d || Nat.beq e1 d) with
    | true => rw [hb] at h; have := unhang_mem (l := l) h; exact ⟨by simp [this.1], this.2⟩
    | false =>
      rw [hb] at h
      simp only [Bool.or_eq_false_iff] at hb
      rcases List.mem_cons.1 h with h | h
      · simp only [Prod.mk.injEq] at h
        obtain ⟨rfl, rfl, rfl, rfl⟩ := h
        exact ⟨by simp, by intro e; subst e; simp at hb, by intro e; subst e; simp at hb⟩
      · have := unhang_mem (l := l) h; exact ⟨by simp [this.1], this.2⟩

theorem getD_set {tm : Array Value} {d : Nat} {v : Value} (hd : d < tm.size) (i : Nat) : (tm.setIfInBounds d v).getD i undef = if i = d then v else tm.getD i undef := by
  by_cases e : i = d
  · subst e
    simp [Array.getD_eq_getD_getElem?, Array.getElem?_setIfInBounds, hd]
  · have e' : ¬ d = i := fun h => e h.symm
    simp [Array.getD_eq_getD_getElem?, Array.getElem?_setIfInBounds, e, e']

/-- a slot is written -/
theorem Inv.put (hi : Inv C I β F σ w tm) {d : Nat} {sv : SV} {v : Value} (hd : d < σ.n) (hs : SVR (hpOf w) C.L I β σ.r sv v) :
    Inv C I β F (σ.put d sv) w (tm.setIfInBounds d v) := by
  have hget : ∀ i, (tm.setIfInBounds d v).getD i undef = if i = d then v else tm.getD i undef := by
    intro i
    have := hi.size
    by_cases e : i = d
    · subst e
      simp [Array.getD_eq_getD_getElem?, Array.getElem?_setIfInBounds, this, hd]
    · have e' : ¬ d = i := fun h => e h.symm
      simp [Array.getD_eq_getD_getElem?, Array.getElem?_setIfInBounds, e, e']
  constructor
  case size => simp [St.put, hi.size]
  case slots =>
    intro i
    simp only [St.put]
    rw [hget]
    by_cases e : i = d
    · subst e; rw [find_cons_same]; simpa using hs
    · rw [find_cons_ne e]; simpa [e] using hi.slots i
  case conds =>
    intro k e u v' hm hd'
    obtain ⟨hm, hk, he⟩ := unhang_mem hm
    rw [hget] at hd' ⊢
    simp only [he, hk, if_false] at hd' ⊢
    exact hi.conds k e u v' hm hd'
  case undefs =>
    intro k e u v' hm hd'
    obtain ⟨hm, hk, he⟩ := unhang_mem hm
    rw [hget] at hd' ⊢
    simp only [he, hk, if_false] at hd' ⊢
    exact hi.undefs k e u v' hm hd'
  case roots => exact hi.roots
  case nodup => exact hi.nodup
  case disj => exact hi.disj
  case own => exact hi.own
  case shared => exact hi.shared
  case sub => exact hi.sub
  case frame => exact hi.frame
  case grow => exact hi.grow
  case rest => exact hi.rest

end

end Go.Proofs.Ytnffdeokhcojfaa.E

namespace Go.Proofs.Ytnffdeokhcojfaa.E
open Go
set_option linter.unusedSimpArgs false
set_option linter.unusedVariables false

/-! what the program's table says -/

section
variable {C : Ctx}

theorem und_ok {t : TypeId} {d : TypeDesc} (h : und C.T t = some d) : C.P.underlying t = some d := by
  unfold und at h
  cases e : C.T t with
  | none => simp [e] at h
  | some i => simp [e] at h; rw [← h]; exact (C.ok t i e).1

theorem sz_ok {t : TypeId} {n : Nat} (h : szB C.T t n = true) : ∃ j, C.P.info? t = some j ∧ j.size = n := by
  unfold szB at h
  cases e : C.T t with
  | none => simp [e] at h
  | some i =>
    simp only [e] at h
    obtain ⟨j, z, h1, h2, _⟩ := (C.ok t i e).2
    exact ⟨j, h1, h2.trans (Nat.eq_of_beq_eq_true h)⟩

theorem run_size {t : TypeId} {n : Nat} (h : szB C.T t n = true) (w : World) : (sizeOf t).run C.P w = .ok n w := by
  obtain ⟨j, h1, h2⟩ := sz_ok h
  simp [sizeOf, typeInfo, h1, h2]

theorem run_agg {t : TypeId} {b : Bool} (h : aggB C.T t b = true) (w : World) : (isAgg t).run C.P w = .ok b w := by
  unfold aggB at h
  cases e : und C.T t with
  | none => simp [e] at h
  | some d =>
    simp only [e] at h
    unfold isAgg
    rw [Sem.run_bind, run_underlying (und_ok e) w]
    cases d <;> simp_all

theorem veq_eq {x y : Value} (hb : veq x y = true) : x = y := by
  cases x <;> cases y <;> try (simp [veq] at hb; done)
  case bool.bool a b => simp [veq] at hb; rw [hb]
  case int.int k n j m => simp only [veq, Bool.and_eq_true, decide_eq_true_eq] at hb; rw [kindEq_iff hb.1, hb.2]
  case string.string a b =>
    simp [veq] at hb
    obtain ⟨h1, h2⟩ := hb
    obtain ⟨d⟩ := a
    obtain ⟨e⟩ := b
    simp at h1 h2
    rw [h1, h2]
  case pointer.pointer a b => cases a <;> cases b <;> first | rfl | (simp [veq] at hb)
  case slice.slice a n c b m d =>
    cases a <;> cases b <;> first | (simp [veq] at hb; done) | skip
    simp only [veq, Bool.and_eq_true] at hb
    rw [Nat.eq_of_beq_eq_true hb.1, Nat.eq_of_beq_eq_true hb.2]

theorem veqL_eq : ∀ {a b : List Value}, veqL a b = true → a = b
  | [], [], _ => rfl
  | [], _ :: _, h => by simp [veqL] at h
  | _ :: _, [], h => by simp [veqL] at h
  | x :: a, y :: b, h => by
    simp only [veqL, Bool.and_eq_true] at h
    rw [veq_eq h.1, veqL_eq h.2]

theorem zero_ok {t : TypeId} {τ : Ty} (h : zeroB C.T t τ = true) : zOk τ = true ∧ ∃ j z, C.P.info? t = some j ∧ j.zero = some z ∧ z.cells.toList = zeroC τ := by
  unfold zeroB at h
  cases e : C.T t with
  | none => simp [e] at h
  | some i =>
    simp only [e, Bool.and_eq_true] at h
    obtain ⟨j, z, h1, _, _, h2, h3⟩ := (C.ok t i e).2
    refine ⟨h.2, j, z, h1, h2, ?_⟩
    rw [h3]
    exact veqL_eq h.1

end

theorem addr_add (b o i : Nat) : (⟨b, o, none⟩ : Addr).add i = ⟨b, o + i, none⟩ := by unfold Addr.add; split <;> simp_all

/-! cells are single -/

theorem RL.one {α : Type} {R : α → List Value → List Nat → Prop} (hr : ∀ x c X, R x c X → ∀ v ∈ c, v.oneCell' = true) :
    ∀ {xs : List α} {cs X}, RL R xs cs X → ∀ v ∈ cs, v.oneCell' = true
  | [], _, _, ⟨h, _⟩, v, hv => by subst h; simp at hv
  | _ :: xs, _, _, ⟨c1, c2, X1, X2, h1, _, h3, h4⟩, v, hv => by
    subst h1
    rcases List.mem_append.1 hv with h | h
    · exact hr _ _ _ h3 v h
    · exact RL.one hr h4 v h

theorem Rep.one {h : Hp} {S : Set'} {l : Bool} : ∀ {t : Ty} {x : den t} {cs X}, Rep h S l t x cs X → ∀ v ∈ cs, v.oneCell' = true
  | .int _, _, _, _, hr, v, hv | .bool, _, _, _, hr, v, hv | .str, _, _, _, hr, v, hv | .unit, _, _, _, hr, v, hv => by rw [hr.1] at hv; simp at hv; try (rw [hv]; rfl)
  | .pair _ _, _, _, _, ⟨c1, c2, _, _, h1, _, h3, h4⟩, v, hv => by
    subst h1
    rcases List.mem_append.1 hv with h | h
    · exact Rep.one h3 v h
    · exact Rep.one h4 v h
  | .arr _ _, _, _, _, ⟨_, h2⟩, v, hv => RL.one (fun _ _ _ => Rep.one) h2 v hv
  | .sl _ _, _, _, _, ⟨_, _, h1, _⟩, v, hv => by rw [h1] at hv; simp at hv; rw [hv]; rfl
  | .ptr _ _, none, _, _, hr, v, hv => by rw [hr.1] at hv; simp at hv; rw [hv]; rfl
  | .ptr _ _, some _, _, _, ⟨_, _, _, _, _, _, h1, _⟩, v, hv => by rw [h1] at hv; simp at hv; rw [hv]; rfl
  | .ref _ _, _, _, _, ⟨_, _, _, _, _, _, h1, _⟩, v, hv => by rw [h1] at hv; simp at hv; rw [hv]; rfl
  | .map _ _ _, _, _, _, ⟨_, _, _, _, h1, _⟩, v, hv => by rw [h1] at hv; simp at hv; rw [hv]; rfl

theorem wrapV_cells {t : Ty} {cs : List Value} (hl : cs.length = t.size) (h1 : ∀ v ∈ cs, v.oneCell' = true) : (wrapV t cs).cells.toList = cs := by
  unfold wrapV
  cases ha : t.isAgg with
  | true => simp [Value.cells]
  | false =>
    have : cs.length = 1 := by rw [hl]; cases t <;> simp_all [Ty.isAgg, Ty.size]
    obtain ⟨c, rfl⟩ := List.length_eq_one_iff.1 this
    have := h1 c (by simp)
    cases c <;> simp_all [Value.cells, Value.oneCell']

/-! memory -/

section
variable {C : Ctx} {w : World}

theorem cell_at {b o : Nat} {arr : Array Value} {E : TypeId} {fr : Nat × Nat} (hb : hpOf w b = some (.cells arr E fr)) (i : Nat) : w.cell? ⟨b, o + i, none⟩ = arr[o + i]? := by
  simp [World.cell?, hpOf] at hb ⊢; simp [hb]

theorem run_cells {b o n : Nat} {arr : Array Value} {E : TypeId} {fr : Nat × Nat} (hb : hpOf w b = some (.cells arr E fr)) (hn : o + n ≤ arr.size) :
    (loadCells ⟨b, o, none⟩ n).run C.P w = .ok ((arr.toList.drop o).take n).toArray w := by
  have h := run_loadCells_list (P := C.P) w ⟨b, o, none⟩ ((arr.toList.drop o).take n) (fun j v hv => by
    rw [addr_add, cell_at hb]
    rw [List.getElem?_take] at hv
    split at hv
    · rw [List.getElem?_drop] at hv; simpa using hv
    · cases hv)
  have hl : ((arr.toList.drop o).take n).length = n := by simp; omega
  rw [hl] at h
  exact h

theorem run_load_var {t : TypeId} {τ : Ty} (hf : fits C.T t τ = true) {b o : Nat} {arr : Array Value} {E : TypeId} {fr : Nat × Nat} (hb : hpOf w b = some (.cells arr E fr)) (hn : o + τ.size ≤ arr.size) :
    (loadVar t ⟨b, o, none⟩).run C.P w = .ok (wrapV τ ((arr.toList.drop o).take τ.size)) w := by
  simp only [fits, Bool.and_eq_true] at hf
  unfold loadVar
  rw [Sem.run_bind, run_agg hf.2]
  simp only [Result.andThen_ok]
  cases ha : τ.isAgg with
  | true =>
    simp only [if_true, Sem.run_bind, run_size hf.1, Result.andThen_ok, run_cells hb hn, Sem.run_pure, wrapV, ha]
  | false =>
    have h1 : τ.size = 1 := by cases τ <;> simp_all [Ty.isAgg, Ty.size]
    have hlt : o < arr.size := by omega
    have hc : w.cell? ⟨b, o, none⟩ = some arr[o] := by
      have := cell_at (o := o) hb 0
      simpa [hlt] using this
    have hd : (arr.toList.drop o).take 1 = [arr[o]] := by
      rw [List.take_one]
      simp [List.head?_drop, hlt]
    simp only [Bool.false_eq_true, if_false, run_load, hc, wrapV, ha, h1, hd, List.headD_cons]

theorem frozen_at {b : Nat} {arr : Array Value} {E : TypeId} {fr : Nat × Nat} (hb : hpOf w b = some (.cells arr E fr)) (hc : calm arr.size fr) {i : Nat} (hi : i < arr.size) : w.frozen? ⟨b, i, none⟩ = false := by
  simp only [World.frozen?, hpOf] at hb ⊢
  simp only [hb]
  rcases hc with rfl | h
  · simp
  · obtain ⟨lo, hi'⟩ := fr
    have h : arr.size ≤ lo := h
    have h2 : ¬ (lo ≤ i) := by omega
    simp [h2]

theorem hp_setCell {b i : Nat} {v : Value} {arr : Array Value} {E : TypeId} {fr : Nat × Nat} (hb : hpOf w b = some (.cells arr E fr)) :
    hpOf (w.setCell ⟨b, i, none⟩ v) b = some (.cells (arr.setIfInBounds i v) E fr) ∧ (∀ k, k ≠ b → hpOf (w.setCell ⟨b, i, none⟩ v) k = hpOf w k) ∧ (w.setCell ⟨b, i, none⟩ v).heap.size = w.heap.size := by
  refine ⟨?_, ?_, by simp⟩
  · simp only [hpOf, World.setCell] at hb ⊢
    rw [Array.getElem?_modify]
    simp [hb]
  · intro k hk
    exact heap_setCell_other w ⟨b, i, none⟩ k v hk

theorem run_store_cells {b o : Nat} {E : TypeId} {fr : Nat × Nat} : ∀ (vs : List Value) (i : Nat) (arr : Array Value) (w : World), hpOf w b = some (.cells arr E fr) → calm arr.size fr → o + i + vs.length ≤ arr.size → (∀ v ∈ vs, v.oneCell' = true) →
    ∃ w' arr', (storeCells ⟨b, o, none⟩ vs i).run C.P w = .ok () w' ∧ hpOf w' b = some (.cells arr' E fr) ∧ arr'.size = arr.size ∧ arr'.toList = arr.toList.take (o + i) ++ vs ++ arr.toList.drop (o + i + vs.length) ∧
      (∀ k, k ≠ b → hpOf w' k = hpOf w k) ∧ w'.heap.size = w.heap.size ∧ restOf w' = restOf w
  | [], i, arr, w, hb, _, _, _ => ⟨w, arr, rfl, hb, rfl, by simp, fun _ _ => rfl, rfl, rfl⟩
  | v :: rest, i, arr, w, hb, hc, hl, h1 => by
    have hi : o + i < arr.size := by simp at hl; omega
    have hcell : w.cell? ⟨b, o + i, none⟩ = some arr[o + i] := by rw [cell_at hb]; simp [hi]
    obtain ⟨e1, e2, e3⟩ := hp_setCell (i := o + i) (v := v) hb
    have hst : (store ((⟨b, o, none⟩ : Addr).add i) v).run C.P w = .ok () (w.setCell ⟨b, o + i, none⟩ v) := by
      rw [addr_add, run_store C.P w _ v _ (h1 v (by simp)), hcell]
      simp [frozen_at hb hc hi]
    obtain ⟨w', arr', f1, f2, f3, f4, f5, f6, f7⟩ := run_store_cells (b := b) (o := o) (E := E) (fr := fr) rest (i + 1) (arr.setIfInBounds (o + i) v) (w.setCell ⟨b, o + i, none⟩ v) e1 (by simpa using hc) (by simp only [List.length_cons] at hl; simp; omega) (fun x hx => h1 x (by simp [hx]))
    refine ⟨w', arr', ?_, f2, by simpa using f3, ?_, fun k hk => (f5 k hk).trans (e2 k hk), f6.trans e3, f7.trans rfl⟩
    · simp only [storeCells, Sem.run_bind, hst, Result.andThen_ok]; exact f1
    · rw [f4]
      have e := list_seg_step arr.toList (o + i) v rest (by simp at hl ⊢; omega)
      simpa [Array.toList_setIfInBounds, Nat.add_assoc] using e

theorem hp_alloc (o : Obj) : hpOf (w.alloc o) w.heap.size = some o ∧ (∀ k, k < w.heap.size → hpOf (w.alloc o) k = hpOf w k) ∧ (w.alloc o).heap.size = w.heap.size + 1 :=
  ⟨heap_alloc_new w o, fun k hk => heap_alloc_old w o k hk, by simp⟩

end

end Go.Proofs.Ytnffdeokhcojfaa.E

namespace Go.Proofs.Ytnffdeokhcojfaa.E
open Go
set_option linter.unusedSimpArgs false
set_option linter.unusedVariables false

/-- what an operation comes to -/
def After (C : Ctx) (I : Set') (σ' : St) (w : World) (tm : Array Value) (sv : SV) (res : Result Value) : Prop :=
  ∃ v w' I' β' F', res = .ok v w' ∧ Inv C I' β' F' σ' w' tm ∧ SVR (hpOf w') C.L I' β' σ'.r sv v ∧ (∀ b, I b → I' b) ∧ w.heap.size ≤ w'.heap.size

section
variable {C : Ctx} {I : Set'} {β : Nat → Value} {F : Nat → List Nat} {σ : St} {w : World} {tm : Array Value} {h : Hp} {L : Set'} {ρ : List (Nat × Root)}

theorem svr_int {l : Bool} {k : IntKind} {n : Int} : SVR h L I β ρ (.v l (.int k) n) (.int k n) := ⟨[.int k n], ⟨rfl, rfl⟩, rfl⟩
theorem svr_bool {l b : Bool} : SVR h L I β ρ (.v l .bool b) (.bool b) := ⟨[.bool b], ⟨rfl, rfl⟩, rfl⟩
theorem svr_str {l : Bool} {s : List UInt8} : SVR h L I β ρ (.v l .str s) (.string ⟨⟨s⟩⟩) := ⟨[.string ⟨⟨s⟩⟩], ⟨rfl, rfl⟩, rfl⟩

theorem of_int {l : Bool} {k : IntKind} {n : Int} {v : Value} (hs : SVR h L I β ρ (.v l (.int k) n) v) : v = .int k n := by
  obtain ⟨cs, ⟨rfl, _⟩, rfl⟩ := hs; rfl
theorem of_bool {l b : Bool} {v : Value} (hs : SVR h L I β ρ (.v l .bool b) v) : v = .bool b := by
  obtain ⟨cs, ⟨rfl, _⟩, rfl⟩ := hs; rfl
theorem of_str {l : Bool} {s : List UInt8} {v : Value} (hs : SVR h L I β ρ (.v l .str s) v) : v = .string ⟨⟨s⟩⟩ := by
  obtain ⟨cs, ⟨rfl, _⟩, rfl⟩ := hs; rfl

theorem Inv.after (hi : Inv C I β F σ w tm) {sv : SV} {v : Value} (hs : SVR (hpOf w) C.L I β σ.r sv v) : After C I σ w tm sv (.ok v w) :=
  ⟨v, w, I, β, F, rfl, hi, hs, fun _ h => h, Nat.le_refl _⟩

/-- the same, where the world and what is known stay as they were -/
def After0 (C : Ctx) (I : Set') (β : Nat → Value) (σ σ' : St) (w : World) (sv : SV) (res : Result Value) : Prop :=
  ∃ v, res = .ok v w ∧ σ' = σ ∧ SVR (hpOf w) C.L I β σ.r sv v

theorem Inv.after0 (hi : Inv C I β F σ w tm) {sv : SV} {v : Value} (hs : SVR (hpOf w) C.L I β σ.r sv v) : After0 C I β σ σ w sv (.ok v w) := ⟨v, rfl, rfl, hs⟩

theorem After0.a {σ' : St} {sv : SV} {res : Result Value} (h : After0 C I β σ σ' w sv res) (hi : Inv C I β F σ w tm) : After C I σ' w tm sv res := by
  obtain ⟨v, rfl, rfl, h⟩ := h
  exact hi.after h

/-- where a pointer into a root leads -/
theorem place (hi : Inv C I β F σ w tm) {r : Nat} {s : List Sel} {v : Value} (hs : SVR (hpOf w) C.L I β σ.r (.p r s) v) :
    ∃ R o u b base arr E fr, look σ.r r = some R ∧ R.off s = some (o, u) ∧ R.ok s ∧ β r = (match R with | .box _ _ _ => .pointer (some ⟨b, base, none⟩) | .arr _ _ xs => β r) ∧
      v = .pointer (some ⟨b, base + o, none⟩) ∧ hpOf w b = some (.cells arr E fr) ∧ calm arr.size fr ∧ b ∈ F r ∧ base + o + u.size ≤ arr.size ∧
      (∀ l p, R.get s = some (l, p) → ∃ Y, Rep (hpOf w) (Sx C.L I l) false p.t p.a ((arr.toList.drop (base + o)).take p.t.size) Y) ∧
      (∀ l p, R.get s = some (l, p) → p.o = o ∧ p.t = u ∧ l = R.len) := by
  obtain ⟨R, o, u, h1, h2, h3, h4⟩ := hs
  have hR := hi.roots r R h1
  cases R with
  | box l t a =>
    obtain ⟨b, ob, arr, E, fr, X', e1, e2, e3, e4, e5⟩ := hR
    simp only [Bool.and_true, if_true, Bool.not_false] at e5
    obtain ⟨f1, f2, rfl, f4⟩ := e5
    simp only [List.cons.injEq, and_true] at e1
    have hle := selOff_le h2 h3
    refine ⟨_, o, u, b, 0, arr, E, fr, h1, h2, h3, e1, ?_, e2, f2, by rw [f1]; simp, by omega, ?_, ?_⟩
    · rw [h4, e1]; simp [ptrOf]
    · intro l' p hg
      simp only [Root.get] at hg
      cases hq : selGet s t a with
      | none => simp [hq] at hg
      | some q =>
        simp [hq] at hg
        obtain ⟨rfl, rfl⟩ := hg
        obtain ⟨Y, _, hY, _⟩ := selGet_rep hq h3 e4
        have := selGet_off s t a q hq
        simp only [Root.off] at h2
        rw [h2] at this
        simp only [Option.some.injEq, Prod.mk.injEq] at this
        obtain ⟨rfl, rfl⟩ := this
        refine ⟨Y, ?_⟩
        have e : (List.take q.t.size (List.drop q.o (List.take t.size (List.drop 0 arr.toList)))) = List.take q.t.size (List.drop (0 + q.o) arr.toList) := by
          rw [List.drop_take, List.take_take, List.drop_drop]
          congr 1; omega
        rw [e] at hY; exact hY
    · intro l' p hg
      simp only [Root.get] at hg
      cases hq : selGet s t a with
      | none => simp [hq] at hg
      | some q =>
        simp [hq] at hg
        obtain ⟨rfl, rfl⟩ := hg
        have := selGet_off s t a q hq
        simp only [Root.off] at h2
        rw [h2] at this
        simp only [Option.some.injEq, Prod.mk.injEq] at this
        exact ⟨this.1.symm, this.2.symm, rfl⟩
  | arr l t xs =>
    cases s with
    | nil => simp [Root.off] at h2
    | cons z s => cases z with
      | f i => simp [Root.off] at h2
      | i n =>
        simp only [Root.off] at h2
        cases hs : selOff s t with
        | none => simp [hs] at h2
        | some q =>
          simp [hs] at h2
          obtain ⟨rfl, rfl⟩ := h2
          obtain ⟨hn, hok⟩ := h3
          obtain ⟨a, c, e1, e2, e3⟩ := hR
          rcases e3 with ⟨e3, _⟩ | ⟨b, ob, arr, E', fr, X', f1, f2, f3, f4, f5⟩
          · rw [e3] at hn; simp at hn
          simp only [Bool.and_true, if_true, Bool.not_false] at f5
          simp only [List.cons.injEq, and_true] at e1
          have hle := selOff_le (o := q.1) (a := q.2) hs hok
          have hm : n * t.size + t.size ≤ xs.length * t.size := by rw [← Nat.succ_mul]; exact Nat.mul_le_mul_right _ hn
          have hm2 : xs.length * t.size ≤ c * t.size := Nat.mul_le_mul_right _ e2
          refine ⟨_, n * t.size + q.1, q.2, b, ob, arr, E', fr, h1, by simp [Root.off, hs], ⟨hn, hok⟩, rfl, ?_, f2, f5.2, by rw [f5.1]; simp, by omega, ?_, ?_⟩
          · rw [h4, e1, f1]; simp [ptrOf]
          · intro l' p hg
            simp only [Root.get] at hg
            cases hq : selGet s t (xs.getD n (E.dflt t)) with
            | none => rw [hq] at hg; simp at hg
            | some q' =>
              rw [hq] at hg; simp at hg
              obtain ⟨rfl, rfl⟩ := hg
              have := selGet_off s t _ q' hq
              rw [hs] at this
              obtain rfl := Option.some.inj this
              obtain ⟨Y, _, _, hY, _⟩ := RL.get (fun _ _ _ => Rep.len) (E.dflt t) n hn f4
              obtain ⟨Z, _, hZ, _⟩ := selGet_rep hq hok hY
              refine ⟨Z, ?_⟩
              have e : List.take q'.t.size (List.drop q'.o (List.take t.size (List.drop (n * t.size) (List.take (xs.length * t.size) (List.drop ob arr.toList))))) = List.take q'.t.size (List.drop (ob + (n * t.size + q'.o)) arr.toList) := by
                rw [List.drop_take, List.drop_take, List.take_take, List.drop_take, List.take_take, List.drop_drop, List.drop_drop]
                congr 1
                simp only at hle
                omega
              rw [e] at hZ; exact hZ
          · intro l' p hg
            simp only [Root.get] at hg
            cases hq : selGet s t (xs.getD n (E.dflt t)) with
            | none => rw [hq] at hg; simp at hg
            | some q' =>
              rw [hq] at hg; simp at hg
              obtain ⟨rfl, rfl⟩ := hg
              have := selGet_off s t _ q' hq
              rw [hs] at this
              obtain rfl := Option.some.inj this
              exact ⟨rfl, rfl, rfl⟩

/-! arithmetic -/

theorem bin_ok {op : BinOp} {k j : IntKind} {a b : Int} {sv : SV} (hk : (isShift op || kindEq k j) = true) (hb : bin op k a b = some (true, sv)) (t : TypeId) (w : World) :
    ∃ v, (binOp op t (.int k a) (.int j b)).run C.P w = .ok v w ∧ SVR h L I β ρ sv v := by
  cases op <;> simp only [bin, Option.some.injEq, Prod.mk.injEq] at hb <;> simp only [isShift, Bool.true_or, Bool.false_or] at hk
  all_goals try (obtain rfl := kindEq_iff hk)
  all_goals obtain ⟨hc, rfl⟩ := hb
  case quo =>
    have : b ≠ 0 := by simpa using hc
    exact ⟨_, by simp [binOp, Op.intDiv, this], svr_int⟩
  case rem =>
    have : b ≠ 0 := by simpa using hc
    exact ⟨_, by simp [binOp, Op.intDiv, this], svr_int⟩
  case shl =>
    have : ¬ b < 0 := by have := of_decide_eq_true hc; omega
    exact ⟨_, by simp [binOp, Op.shift, this], svr_int⟩
  case shr =>
    have : ¬ b < 0 := by have := of_decide_eq_true hc; omega
    exact ⟨_, by simp [binOp, Op.shift, this], svr_int⟩
  all_goals first
    | exact ⟨_, by simp [binOp, Op.intArith, Op.intBits, Op.intCmp], svr_int⟩
    | exact ⟨_, by simp [binOp, Op.intArith, Op.intBits, Op.intCmp], svr_bool⟩

theorem ba_list (l : List UInt8) : (⟨⟨l⟩⟩ : ByteArray).toList = l := by
  rw [ByteArray.toList_eq]

theorem binStr_ok {op : BinOp} {a b : List UInt8} {sv : SV} (hb : binStr op a b = some (true, sv)) (t : TypeId) (w : World) :
    ∃ v, (binOp op t (.string ⟨⟨a⟩⟩) (.string ⟨⟨b⟩⟩)).run C.P w = .ok v w ∧ SVR h L I β ρ sv v := by
  cases op <;> simp only [binStr, Option.some.injEq, Prod.mk.injEq, reduceCtorEq] at hb
  all_goals obtain ⟨hc, rfl⟩ := hb
  case add =>
    have := of_decide_eq_true hc
    refine ⟨.string ⟨⟨a ++ b⟩⟩, ?_, svr_str⟩
    have hsz : ¬ (((⟨⟨a⟩⟩ : ByteArray).size + (⟨⟨b⟩⟩ : ByteArray).size : Nat) : Int) > IntKind.i64.max := by
      have e1 : (⟨⟨a⟩⟩ : ByteArray).size = a.length := rfl
      have e2 : (⟨⟨b⟩⟩ : ByteArray).size = b.length := rfl
      have e3 : IntKind.i64.max = 9223372036854775807 := by decide
      rw [e1, e2, e3]; omega
    have he : (⟨⟨a⟩⟩ : ByteArray) ++ ⟨⟨b⟩⟩ = ⟨⟨a ++ b⟩⟩ := by
      apply ByteArray.ext
      simp
    simp only [binOp, Op.stringOp, if_neg hsz, he]
    rfl
  all_goals exact ⟨_, by simp [binOp, Op.stringOp, ba_list], svr_bool⟩

end

end Go.Proofs.Ytnffdeokhcojfaa.E

namespace Go.Proofs.Ytnffdeokhcojfaa.E
open Go
set_option linter.unusedSimpArgs false
set_option linter.unusedVariables false

section
variable {h : Hp} {S : Set'}

theorem RL.nilX {α : Type} {R : α → List Value → List Nat → Prop} {xs : List α} {cs : List Value} {Y : List Nat} (hr : ∀ x c X, R x c X → X = []) (hx : RL R xs cs Y) : RL R xs cs [] := by
  have := RL.noX hr hx
  subst this; exact hx

/-- a part of a slice reads as the part of the list -/
theorem sub_rep {o : Bool} {t : Ty} {xs : List (den t)} {v u : Value} {lo n : Nat} (hr : Rep h S true (.sl o t) xs [v] []) (hs : subOf v t.size lo n u) (hn : lo + n ≤ xs.length) :
    Rep h S true (.sl o t) ((xs.drop lo).take n) [u] [] := by
  obtain ⟨a, c, e1, e2, e3⟩ := hr
  obtain ⟨a0, m, c0, a', c', f1, f2, f3, f4, f5⟩ := hs
  simp only [List.cons.injEq, and_true] at e1
  rw [f1] at e1
  simp only [Value.slice.injEq] at e1
  obtain ⟨rfl, rfl, rfl⟩ := e1
  have hlen : ((xs.drop lo).take n).length = n := by simp; omega
  refine ⟨a', c', by rw [f2, hlen], by rw [hlen]; exact f3, ?_⟩
  rcases e3 with ⟨g1, g2, g3, _⟩ | ⟨b, of, arr, E', fr, X', g1, g2, g3, g4, g5⟩
  · subst g1
    simp at hn
    subst g3
    have : c' = 0 := by omega
    exact .inl ⟨by simp, rfl, this, rfl⟩
  · simp only [Bool.not_true, Bool.and_false, Bool.false_eq_true, if_false] at g5
    obtain ⟨g5, _, rfl⟩ := g5
    rcases f5 with ⟨_, _, f5⟩ | ⟨b', o', k, f5, f6, f7, f8⟩
    · refine .inl ⟨?_, rfl, f5, rfl⟩
      have : n = 0 := by omega
      subst this; simp
    · rw [g1] at f5
      simp only [Option.some.injEq, Addr.mk.injEq, and_true] at f5
      obtain ⟨rfl, rfl⟩ := f5
      have hle : k * t.size + c' * t.size ≤ c0 * t.size := by rw [← Nat.add_mul]; exact Nat.mul_le_mul_right _ f7
      refine .inr ⟨b, of + k * t.size, arr, E', fr, [], f6, g2, by omega, ?_, by simp [g5]⟩
      rcases f8 with f8 | f8
      · have : n = 0 := by omega
        subst this
        simp [RL]
      subst f8
      obtain ⟨Y, hY, h1⟩ := RL.drop (fun _ _ _ => Rep.len) k g4
      obtain ⟨Z, hZ, h2⟩ := RL.take (fun _ _ _ => Rep.len) n h1
      have h2 := RL.nilX (fun _ _ _ => Rep.lentX) h2
      rw [hlen]
      have e : List.take (n * t.size) (List.drop (k * t.size) (List.take (xs.length * t.size) (List.drop of arr.toList))) = List.take (n * t.size) (List.drop (of + k * t.size) arr.toList) := by
        have : n * t.size + k * t.size ≤ xs.length * t.size := by rw [← Nat.add_mul]; exact Nat.mul_le_mul_right _ (by omega)
        rw [List.drop_take, List.take_take, List.drop_drop]
        congr 1; omega
      rw [e] at h2; exact h2

theorem sub_all {a : Option Addr} {m c sz : Nat} : ∀ {v : Value}, v = .slice a m c → m ≤ c → (a = none → c = 0) → (c = 0 ∨ ∀ x, a = some x → x.spot = none) → subOf v sz 0 m v := by
  rintro v rfl h1 h2 h3
  refine ⟨a, m, c, a, c, rfl, rfl, h1, by omega, ?_⟩
  rcases h3 with h3 | h3
  · exact .inl ⟨rfl, rfl, h3⟩
  cases a with
  | none => exact .inl ⟨rfl, rfl, h2 rfl⟩
  | some x =>
    obtain ⟨b, o, s⟩ := x
    obtain rfl := h3 _ rfl
    exact .inr ⟨b, o, 0, rfl, by simp, by omega, .inr rfl⟩

/-- an array of the call's own, read as shared -/
theorem arr_rep {L I : Set'} {β : Value} {l : Bool} {t : Ty} {xs : List (den t)} {X : List Nat} (hr : RootR h L I β (.arr l t xs) X) (hf : t.flat = true) :
    Rep h (Sx L (fun b => I b ∨ b ∈ X) l) true (.sl false t) xs [β] [] := by
  obtain ⟨a, c, e1, e2, e3⟩ := hr
  refine ⟨a, c, e1, e2, ?_⟩
  rcases e3 with ⟨g1, g2, g3, _⟩ | ⟨b, of, arr, E', fr, X', g1, g2, g3, g4, g5⟩
  · exact .inl ⟨g1, g2, g3, rfl⟩
  · simp only [Bool.and_true, if_true, Bool.not_false] at g5
    refine .inr ⟨b, of, arr, E', fr, [], g1, g2, g3, ?_, ?_⟩
    · have h1 : RL (Rep h (Sx L I l) true t) xs ((arr.toList.drop of).take (xs.length * t.size)) X' :=
        RL.mono_mem (fun x c Y _ hY hr => by obtain ⟨e, r⟩ := Rep.flat (t := t) hf hr; rw [e]; exact r) g4
      have h2 := RL.nilX (fun _ _ _ => Rep.lentX) h1
      exact RL.mono_mem (fun x c Y _ _ hr => Rep.keep (S := Sx L I l) (fun b hb => ⟨by rcases hb with hb | hb; exact .inl (.inl hb); exact .inr hb, rfl⟩) (fun _ _ => rfl) hr) h2
    · simp [Sx, g5.1]

end

section
variable {C : Ctx} {I : Set'} {β : Nat → Value} {F : Nat → List Nat} {σ : St} {w : World} {tm : Array Value}

theorem frz_x (r : Nat) (l : Bool) (t : Ty) (xs : List (den t)) : frz r l t xs .x = .x := by simp [frz, SV.uses, SV.uses0]

/-- an array of the call's own is shared from now on -/
theorem Inv.frz (hi : Inv C I β F σ w tm) {r : Nat} {l : Bool} {t : Ty} {xs : List (den t)} (hr : look σ.r r = some (.arr l t xs)) (hf : t.flat = true) :
    σ.frz r = { t := mapT (E.frz r l t xs) σ.t, c := [], r := del σ.r r, n := σ.n } ∧
    Inv C (fun b => I b ∨ b ∈ F r) β F { t := mapT (E.frz r l t xs) σ.t, c := [], r := del σ.r r, n := σ.n } w tm ∧
    (∀ sv v, SVR (hpOf w) C.L I β σ.r sv v → SVR (hpOf w) C.L (fun b => I b ∨ b ∈ F r) β (del σ.r r) (E.frz r l t xs sv) v) ∧
    (∀ sv v, sv.uses r = false → SVR (hpOf w) C.L I β σ.r sv v → SVR (hpOf w) C.L (fun b => I b ∨ b ∈ F r) β (del σ.r r) sv v) := by
  have hrep := arr_rep (hi.roots r _ hr) hf
  have hno : ∀ sv v, sv.uses r = false → SVR (hpOf w) C.L I β σ.r sv v → SVR (hpOf w) C.L (fun b => I b ∨ b ∈ F r) β (del σ.r r) sv v := by
    intro sv v hu hs
    refine SVR.mono (fun b hb => ⟨.inl hb, rfl⟩) (fun _ _ => rfl) ?_ hs
    intro k R hk hl
    have hne : k ≠ r := by rintro rfl; rw [hu] at hk; cases hk
    exact ⟨R, by rw [look_del_ne hne]; exact hl, Root.like.refl R, rfl⟩
  have hmap : ∀ sv v, SVR (hpOf w) C.L I β σ.r sv v → SVR (hpOf w) C.L (fun b => I b ∨ b ∈ F r) β (del σ.r r) (E.frz r l t xs sv) v := by
    intro sv v hs
    cases sv with
    | sf k =>
      simp only [E.frz]
      cases hk : Nat.beq k r with
      | false => exact hno _ _ (by simp [SV.uses, SV.uses0, hk]) hs
      | true =>
        obtain rfl := Nat.eq_of_beq_eq_true hk
        obtain ⟨l', t', xs', h1, h2⟩ := hs
        subst h2
        exact ⟨[β k], hrep, rfl⟩
    | s k lo n =>
      simp only [E.frz]
      cases hk : Nat.beq k r with
      | false => exact hno _ _ (by simp [SV.uses, SV.uses0, hk]) hs
      | true =>
        obtain rfl := Nat.eq_of_beq_eq_true hk
        obtain ⟨l', t', xs', h1, h2, h3⟩ := hs
        rw [hr] at h1
        simp only [Option.some.injEq, Root.arr.injEq] at h1
        obtain ⟨rfl, rfl, h1⟩ := h1
        have h1 := eq_of_heq h1
        subst h1
        exact ⟨[v], sub_rep hrep h3 h2, rfl⟩
    | x => trivial
    | np => exact hs
    | nl => exact hs
    | v l' t' a => exact hno _ _ rfl hs
    | q l' t' a => exact hno _ _ rfl hs
    | p k z =>
      simp only [E.frz]
      cases hk : (SV.p k z).uses r with
      | true => trivial
      | false => exact hno _ _ hk hs
    | tup m =>
      simp only [E.frz]
      cases hk : (SV.tup m).uses r with
      | true => trivial
      | false => exact hno _ _ hk hs
  refine ⟨by simp [St.frz, hr, hf], ?_, hmap, hno⟩
  constructor
  case size => exact hi.size
  case slots =>
    intro i
    simp only []
    rw [find_mapT (frz_x r l t xs)]
    exact hmap _ _ (hi.slots i)
  case conds => intro k e u v hm; simp at hm
  case undefs => intro k e u v hm; simp at hm
  case roots =>
    intro k R hl
    have h1 := hi.roots k R (look_del hl).2
    cases R with
    | box l t a => exact Rep.keep (Sx.mono (h' := hpOf w) (I' := fun b => I b ∨ b ∈ F r) (fun b hb => ⟨.inl hb, rfl⟩) (fun _ _ => rfl) l) (fun _ _ => rfl) h1
    | arr l t xs => exact Rep.keep (Sx.mono (h' := hpOf w) (I' := fun b => I b ∨ b ∈ F r) (fun b hb => ⟨.inl hb, rfl⟩) (fun _ _ => rfl) l) (fun _ _ => rfl) h1
  case nodup => intro k R hl; exact hi.nodup k R (look_del hl).2
  case disj => intro k k' R R' hne hl hl'; exact hi.disj k k' R R' hne (look_del hl).2 (look_del hl').2
  case own =>
    intro k R hl b hb
    have := hi.own k R (look_del hl).2 b hb
    refine ⟨?_, this.2⟩
    rintro (h | h)
    · exact this.1 h
    · exact hi.disj k r R _ (look_del hl).1 (look_del hl).2 hr b hb h
  case shared =>
    rintro b (h | h)
    · exact hi.shared b h
    · have := hi.own r _ hr b h
      exact ⟨this.2.2.1, .inr this.2.2.2⟩
  case sub => intro b hb; exact .inl (hi.sub b hb)
  case frame => exact hi.frame
  case grow => exact hi.grow
  case rest => exact hi.rest

/-- a value is handed on, shared -/
theorem shared_ok' (hi : Inv C I β F σ w tm) {sv sv' : SV} {σ' : St} {v : Value} (hs : SVR (hpOf w) C.L I β σ.r sv v) (he : sharedV σ sv = (sv', σ')) :
    ∃ I', Inv C I' β F σ' w tm ∧ SVR (hpOf w) C.L I' β σ'.r sv' v ∧ (∀ b, I b → I' b) ∧ σ'.n = σ.n ∧
      (∀ sv2 v2, SVR (hpOf w) C.L I β σ.r sv2 v2 → (∀ r, sv2.uses r = true → look σ'.r r ≠ none) → SVR (hpOf w) C.L I' β σ'.r sv2 v2) ∧ (∀ b, I' b → I b ∨ ∃ k R, look σ.r k = some R ∧ look σ'.r k = none ∧ b ∈ F k) ∧ (∀ k R, look σ'.r k = some R → look σ.r k = some R) := by
  have hsame : (sv', σ') = (sv, σ) → ∃ I', Inv C I' β F σ' w tm ∧ SVR (hpOf w) C.L I' β σ'.r sv' v ∧ (∀ b, I b → I' b) ∧ σ'.n = σ.n ∧
      (∀ sv2 v2, SVR (hpOf w) C.L I β σ.r sv2 v2 → (∀ r, sv2.uses r = true → look σ'.r r ≠ none) → SVR (hpOf w) C.L I' β σ'.r sv2 v2) ∧ (∀ b, I' b → I b ∨ ∃ k R, look σ.r k = some R ∧ look σ'.r k = none ∧ b ∈ F k) ∧ (∀ k R, look σ'.r k = some R → look σ.r k = some R) := by
    intro h
    simp only [Prod.mk.injEq] at h
    obtain ⟨rfl, rfl⟩ := h
    exact ⟨I, hi, hs, fun _ h => h, rfl, fun _ _ h _ => h, fun _ h => .inl h, fun _ _ h => h⟩
  have hx : (sv', σ') = (.x, σ) → ∃ I', Inv C I' β F σ' w tm ∧ SVR (hpOf w) C.L I' β σ'.r sv' v ∧ (∀ b, I b → I' b) ∧ σ'.n = σ.n ∧
      (∀ sv2 v2, SVR (hpOf w) C.L I β σ.r sv2 v2 → (∀ r, sv2.uses r = true → look σ'.r r ≠ none) → SVR (hpOf w) C.L I' β σ'.r sv2 v2) ∧ (∀ b, I' b → I b ∨ ∃ k R, look σ.r k = some R ∧ look σ'.r k = none ∧ b ∈ F k) ∧ (∀ k R, look σ'.r k = some R → look σ.r k = some R) := by
    intro h
    simp only [Prod.mk.injEq] at h
    obtain ⟨rfl, rfl⟩ := h
    exact ⟨I, hi, trivial, fun _ h => h, rfl, fun _ _ h _ => h, fun _ h => .inl h, fun _ _ h => h⟩
  unfold sharedV at he
  cases hroot : sv.root with
  | none => simp only [hroot] at he; exact hsame he.symm
  | some r =>
    simp only [hroot] at he
    cases hl : look σ.r r with
    | none => simp only [hl] at he; exact hx he.symm
    | some R =>
      simp only [hl] at he
      cases R with
      | box l t a => exact hx he.symm
      | arr l t xs =>
        simp only at he
        cases hf : t.flat with
        | false => simp only [hf] at he; exact hx he.symm
        | true =>
          simp only [hf, Prod.mk.injEq] at he
          obtain ⟨e1, e2, e3, e4⟩ := hi.frz hl hf
          rw [e1] at he
          obtain ⟨rfl, rfl⟩ := he
          refine ⟨_, e2, e3 _ _ hs, fun _ h => .inl h, rfl, ?_, fun b hb => ?_, fun k R h => (look_del h).2⟩
          rotate_left
          · rcases hb with hb | hb
            · exact .inl hb
            · exact .inr ⟨r, _, hl, look_del_same, hb⟩
          intro sv2 v2 h2 hu
          refine e4 sv2 v2 ?_ h2
          cases hq : sv2.uses r with
          | false => rfl
          | true => exact (hu r hq look_del_same).elim

theorem shared_ok (hi : Inv C I β F σ w tm) {sv sv' : SV} {σ' : St} {v : Value} (hs : SVR (hpOf w) C.L I β σ.r sv v) (he : sharedV σ sv = (sv', σ')) :
    ∃ I', Inv C I' β F σ' w tm ∧ SVR (hpOf w) C.L I' β σ'.r sv' v ∧ (∀ b, I b → I' b) ∧ σ'.n = σ.n ∧
      (∀ sv2 v2, SVR (hpOf w) C.L I β σ.r sv2 v2 → (∀ r, sv2.uses r = true → look σ'.r r ≠ none) → SVR (hpOf w) C.L I' β σ'.r sv2 v2) := by
  obtain ⟨I', h1, h2, h3, h4, h5, _, _⟩ := shared_ok' hi hs he
  exact ⟨I', h1, h2, h3, h4, h5⟩

theorem toV_ok {h : Hp} {L I : Set'} {ρ : List (Nat × Root)} {len : Bool} {τ : Ty} {sv : SV} {v : Value} {a : den τ} (ht : toV len τ sv = some a) (hs : SVR h L I β ρ sv v) :
    ∃ cs, Rep h (Sx L I len) true τ a cs [] ∧ v = wrapV τ cs := by
  cases sv with
  | v l t b =>
    simp only [toV] at ht
    cases hl : (!l || len) with
    | false => simp [hl] at ht
    | true =>
      simp only [hl] at ht
      obtain ⟨rfl, he⟩ := cast?_some ht
      have := eq_of_heq he
      subst this
      obtain ⟨cs, h1, h2⟩ := hs
      refine ⟨cs, Rep.keep (fun b hb => ⟨?_, rfl⟩) (fun _ _ => rfl) h1, h2⟩
      rcases hb with hb | ⟨hb, hb'⟩
      · exact .inl hb
      · subst hb; simp at hl; exact .inr ⟨hl, hb'⟩
  | nl =>
    simp only [toV] at ht
    cases τ with
    | sl o t =>
      simp at ht
      subst ht
      obtain ⟨a0, hs⟩ := hs
      exact ⟨[.slice a0 0 0], ⟨a0, 0, rfl, Nat.le_refl _, .inl ⟨rfl, rfl, rfl, rfl⟩⟩, hs⟩
    | _ => simp at ht
  | np =>
    simp only [toV] at ht
    cases τ with
    | ptr o t =>
      simp at ht
      subst ht
      exact ⟨[.pointer none], ⟨rfl, rfl⟩, hs⟩
    | _ => simp at ht
  | _ => simp [toV] at ht

end

end Go.Proofs.Ytnffdeokhcojfaa.E

namespace Go.Proofs.Ytnffdeokhcojfaa.E
open Go
set_option linter.unusedSimpArgs false
set_option linter.unusedVariables false

section
variable {C : Ctx} {I : Set'} {β : Nat → Value} {F : Nat → List Nat} {σ : St} {w : World} {tm : Array Value}

theorem eqGuard_int (op : BinOp) (t : TypeId) (x y : Operand) (k j : IntKind) (a b : Int) : (eqGuard op t x y (.int k a) (.int j b)).run C.P w = .ok () w := by
  unfold eqGuard; split <;> simp
theorem eqGuard_str (op : BinOp) (t : TypeId) (x y : Operand) (a b : ByteArray) : (eqGuard op t x y (.string a) (.string b)).run C.P w = .ok () w := by
  unfold eqGuard; split <;> simp
theorem eqGuard_bool (op : BinOp) (t : TypeId) (x y : Operand) (a b : Bool) : (eqGuard op t x y (.bool a) (.bool b)).run C.P w = .ok () w := by
  unfold eqGuard; split <;> simp
theorem eqGuard_ptr (op : BinOp) (t : TypeId) (x y : Operand) (a b : Option Addr) : (eqGuard op t x y (.pointer a) (.pointer b)).run C.P w = .ok () w := by
  unfold eqGuard; split <;> simp

theorem equal_bool {t : TypeId} (hu : C.P.underlying t = some .bool) (a b : Bool) : (Op.equal t (.bool a) (.bool b)).run C.P w = .ok (a == b) w := by
  unfold Op.equal Op.maxDepth
  rw [show (10000 : Nat) = 9999 + 1 from rfl, Op.equalIn]
  simp [Sem.run_bind, run_underlying hu w]

theorem equal_ptr_nil {t e : TypeId} (hu : C.P.underlying t = some (.pointer e)) (a : Addr) : (Op.equal t (.pointer (some a)) (.pointer none)).run C.P w = .ok false w := by
  unfold Op.equal Op.maxDepth
  rw [show (10000 : Nat) = 9999 + 1 from rfl, Op.equalIn]
  simp [Sem.run_bind, run_underlying hu w]

theorem of_np {h L I β ρ v} (hs : SVR h L I β ρ .np v) : v = .pointer none := hs

theorem q_val {h : Hp} {L I : Set'} {β : Nat → Value} {ρ : List (Nat × Root)} {l : Bool} {t : Ty} {a : den t} {v : Value} (hs : SVR h L I β ρ (.q l t a) v) :
    ∃ b o arr E fr, v = .pointer (some ⟨b, o, none⟩) ∧ Sx L I l b ∧ h b = some (.cells arr E fr) ∧ o + t.size ≤ arr.size ∧ Rep h (Sx L I l) true t a ((arr.toList.drop o).take t.size) [] := by
  obtain ⟨b, o, arr, E, fr, X', e1, e2, e3, e4, e5⟩ := hs
  simp only [Bool.not_true, Bool.and_false, Bool.false_eq_true, if_false] at e5
  obtain ⟨e5, _, rfl⟩ := e5
  simp only [List.cons.injEq, and_true] at e1
  exact ⟨b, o, arr, E, fr, e1, e5, e2, e3, e4⟩

theorem opBin_ok (hi : Inv C I β F σ w tm) {op : BinOp} {t : TypeId} {a b sv : SV} {σ' : St} {va vb : Value} (x y : Operand)
    (ha : SVR (hpOf w) C.L I β σ.r a va) (hb : SVR (hpOf w) C.L I β σ.r b vb) (he : opBin C.T op t a b σ = some (true, sv, σ')) :
    After0 C I β σ σ' w sv ((do eqGuard op t x y va vb; binOp op t va vb : Sem Value).run C.P w) := by
  unfold opBin at he
  split at he
  · rename_i l k n l' j m
    obtain rfl := of_int ha
    obtain rfl := of_int hb
    cases hk : (isShift op || kindEq k j) with
    | false => simp [hk] at he
    | true =>
      simp only [hk] at he
      cases hq : bin op k n m with
      | none => simp [hq] at he
      | some q =>
        obtain ⟨c, s⟩ := q
        simp [hq] at he
        obtain ⟨rfl, rfl, rfl⟩ := he
        obtain ⟨v, h1, h2⟩ := bin_ok (C := C) (h := hpOf w) (L := C.L) (I := I) (β := β) (ρ := σ.r) hk hq t w
        rw [Sem.run_bind, eqGuard_int]
        simp only [Result.andThen_ok, h1]
        exact hi.after0 h2
  · rename_i l n l' m
    obtain rfl := of_str ha
    obtain rfl := of_str hb
    cases hq : binStr op n m with
    | none => simp [hq] at he
    | some q =>
      obtain ⟨c, s⟩ := q
      simp [hq] at he
      obtain ⟨rfl, rfl, rfl⟩ := he
      obtain ⟨v, h1, h2⟩ := binStr_ok (C := C) (h := hpOf w) (L := C.L) (I := I) (β := β) (ρ := σ.r) hq t w
      rw [Sem.run_bind, eqGuard_str]
      simp only [Result.andThen_ok, h1]
      exact hi.after0 h2
  · rename_i l n l' m
    obtain rfl := of_bool ha
    obtain rfl := of_bool hb
    rw [Sem.run_bind, eqGuard_bool]
    simp only [Result.andThen_ok]
    split at he
    · rename_i hu
      simp at he
      obtain ⟨rfl, rfl⟩ := he
      simp only [binOp, Sem.run_bind, equal_bool (und_ok hu), Result.andThen_ok]
      exact hi.after0 svr_bool
    · rename_i hu
      simp at he
      obtain ⟨rfl, rfl⟩ := he
      simp only [binOp, Sem.run_bind, equal_bool (und_ok hu), Result.andThen_ok]
      exact hi.after0 svr_bool
    · simp at he
  · rename_i r s
    obtain rfl := of_np hb
    obtain ⟨R, o, u, b, base, arr, E', fr, h1, h2, h3, h4, rfl, h5, _⟩ := place hi ha
    rw [Sem.run_bind, eqGuard_ptr]
    simp only [Result.andThen_ok]
    split at he
    · rename_i hu
      simp at he
      obtain ⟨rfl, rfl⟩ := he
      simp only [binOp, Sem.run_bind, equal_ptr_nil (und_ok hu), Result.andThen_ok]
      exact hi.after0 svr_bool
    · rename_i hu
      simp at he
      obtain ⟨rfl, rfl⟩ := he
      simp only [binOp, Sem.run_bind, equal_ptr_nil (und_ok hu), Result.andThen_ok]
      exact hi.after0 svr_bool
    · simp at he
  · rename_i l τ a
    obtain rfl := of_np hb
    obtain ⟨b, o, arr, E', fr, rfl, _⟩ := q_val ha
    rw [Sem.run_bind, eqGuard_ptr]
    simp only [Result.andThen_ok]
    split at he
    · rename_i hu
      simp at he
      obtain ⟨rfl, rfl⟩ := he
      simp only [binOp, Sem.run_bind, equal_ptr_nil (und_ok hu), Result.andThen_ok]
      exact hi.after0 svr_bool
    · rename_i hu
      simp at he
      obtain ⟨rfl, rfl⟩ := he
      simp only [binOp, Sem.run_bind, equal_ptr_nil (und_ok hu), Result.andThen_ok]
      exact hi.after0 svr_bool
    · simp at he
  · simp at he

theorem opUn_ok (hi : Inv C I β F σ w tm) {op : UnOp} {a sv : SV} {σ' : St} {va : Value}
    (ha : SVR (hpOf w) C.L I β σ.r a va) (he : opUn op a σ = some (true, sv, σ')) : After0 C I β σ σ' w sv ((Op.unary op va).run C.P w) := by
  unfold opUn at he
  split at he
  · obtain rfl := of_bool ha
    simp at he
    obtain ⟨rfl, rfl⟩ := he
    exact hi.after0 svr_bool
  · obtain rfl := of_int ha
    simp only [Option.some.injEq, Prod.mk.injEq, true_and] at he
    obtain ⟨rfl, rfl⟩ := he
    exact hi.after0 svr_int
  · obtain rfl := of_int ha
    simp only [Option.some.injEq, Prod.mk.injEq, true_and] at he
    obtain ⟨rfl, rfl⟩ := he
    exact hi.after0 svr_int
  · simp at he

theorem mkv_ok {h : Hp} {L I : Set'} {β : Nat → Value} {ρ : List (Nat × Root)} {l : Bool} {t : Ty} {a : den t} {cs : List Value} (hr : Rep h (Sx L I l) true t a cs []) : SVR h L I β ρ (mkv l t a) (wrapV t cs) := by
  unfold mkv
  cases hp : t.plain with
  | false => simp only [Bool.not_false, Bool.and_true]; exact ⟨cs, hr, rfl⟩
  | true =>
    simp only [Bool.not_true, Bool.and_false]
    refine ⟨cs, ?_, rfl⟩
    have : ∀ {t : Ty} {x : den t} {cs : List Value}, t.plain = true → ∀ {S S' : Set'}, Rep h S true t x cs [] → Rep h S' true t x cs [] := by
      intro t
      induction t with
      | int k => intro x cs _ S S' hr; exact hr
      | bool => intro x cs _ S S' hr; exact hr
      | str => intro x cs _ S S' hr; exact hr
      | unit => intro x cs _ S S' hr; exact hr
      | pair a b iha ihb =>
        rintro x cs hp S S' ⟨c1, c2, X1, X2, h1, h2, h3, h4⟩
        simp only [Ty.plain, Bool.and_eq_true] at hp
        simp only [List.nil_eq, List.append_eq_nil_iff] at h2
        obtain ⟨rfl, rfl⟩ := h2
        exact ⟨c1, c2, [], [], h1, rfl, iha hp.1 h3, ihb hp.2 h4⟩
      | arr n t ih =>
        rintro x cs hp S S' ⟨h1, h2⟩
        exact ⟨h1, RL.mono_mem (fun x c Y _ hY hr => by
          have : Y = [] := by cases Y with | nil => rfl | cons b Y => exact absurd (hY b (by simp)) (by simp)
          subst this
          exact ih hp hr) h2⟩
      | sl o t => intro x cs hp; simp [Ty.plain] at hp
      | ptr o t => intro x cs hp; simp [Ty.plain] at hp
      | ref o t => intro x cs hp; simp [Ty.plain] at hp
      | map o k v => intro x cs hp; simp [Ty.plain] at hp
    exact this hp hr

theorem opLoad_ok (hi : Inv C I β F σ w tm) {t : TypeId} {a sv : SV} {σ' : St} {va : Value}
    (ha : SVR (hpOf w) C.L I β σ.r a va) (he : opLoad C.T t a σ = some (true, sv, σ')) : After0 C I β σ σ' w sv ((Instr.loadAt t va).run C.P w) := by
  unfold opLoad at he
  split at he
  · rename_i l τ x
    split at he
    · rename_i hf
      simp only [Bool.and_eq_true] at hf
      simp only [Option.some.injEq, Prod.mk.injEq, true_and] at he
      obtain ⟨rfl, rfl⟩ := he
      obtain ⟨b, o, arr, E', fr, rfl, _, h2, h3, h4⟩ := q_val ha
      simp only [Instr.loadAt, Instr.sureAddr, Sem.run_bind, Sem.run_pure, Result.andThen_ok, run_load_var hf.1 h2 h3]
      exact hi.after0 (mkv_ok h4)
    · simp at he
  · rename_i r s
    obtain ⟨R, o, u, b, base, arr, E', fr, h1, h2, h3, h4, rfl, h5, h6, h7, h8, h9, h10⟩ := place hi ha
    rw [h1] at he
    simp only at he
    split at he
    · rename_i l oo τ x hg
      split at he
      · rename_i hf
        simp only [Bool.and_eq_true] at hf
        simp only [Option.some.injEq, Prod.mk.injEq, true_and] at he
        obtain ⟨rfl, rfl⟩ := he
        obtain ⟨Y, hY⟩ := h9 l _ hg
        obtain ⟨q1, q2, _⟩ := h10 l _ hg
        simp only at q1 q2
        subst q1; subst q2
        obtain ⟨hY0, hY1⟩ := Rep.flat hf.2 hY
        simp only [Instr.loadAt, Instr.sureAddr, Sem.run_bind, Sem.run_pure, Result.andThen_ok, run_load_var hf.1 h5 h8]
        exact hi.after0 (mkv_ok hY1)
      · simp at he
    · simp at he
  · simp at he

theorem opNil_ok (hi : Inv C I β F σ w tm) {a sv : SV} {σ' : St} {x : Operand} {ρ : Operand → Value} {o : Oper} (hop : o.op = .nilCheck x)
    (ha : SVR (hpOf w) C.L I β σ.r a (ρ x)) (he : opNil a σ = some (true, sv, σ')) : ∃ v, (execOp ρ o).run C.P w = .ok (.value v) w ∧ σ' = σ ∧ SVR (hpOf w) C.L I β σ.r sv v := by
  unfold execOp
  simp only [hop]
  unfold opNil at he
  split at he
  · simp only [Option.some.injEq, Prod.mk.injEq, true_and] at he
    obtain ⟨rfl, rfl⟩ := he
    obtain ⟨R, o, u, b, base, arr, E', fr, h1, h2, h3, h4, hv, _⟩ := place hi ha
    refine ⟨ρ x, ?_, rfl, ha⟩
    rw [hv]; rfl
  · simp only [Option.some.injEq, Prod.mk.injEq, true_and] at he
    obtain ⟨rfl, rfl⟩ := he
    obtain ⟨b, o, arr, E', fr, hv, _⟩ := q_val ha
    refine ⟨ρ x, ?_, rfl, ha⟩
    rw [hv]; rfl
  · rename_i l oo τ y
    simp only [Option.some.injEq, Prod.mk.injEq] at he
    obtain ⟨hy, rfl, rfl⟩ := he
    cases y with
    | none => simp at hy
    | some y =>
      obtain ⟨cs, hr, hv⟩ := ha
      obtain ⟨b, of, arr, E', fr, X', e1, e2, e3, e4, e5⟩ := hr
      subst e1
      have hv : ρ x = .pointer (some ⟨b, of, none⟩) := hv
      refine ⟨ρ x, by rw [hv]; rfl, rfl, ?_⟩
      rw [hv]
      simp only [Bool.not_true, Bool.and_false, Bool.false_eq_true, if_false] at e5
      exact ⟨b, of, arr, E', fr, X', rfl, e2, e3, e4, by simpa using e5⟩
  · simp at he

theorem nthS_ok {h : Hp} {L I : Set'} {β : Nat → Value} {ρ : List (Nat × Root)} : ∀ {l : List SV} {vs : List Value} (i : Nat), All2 (SVR0 h L I β ρ) l vs → nthS l i ≠ .x → ∃ v, vs[i]? = some v ∧ SVR h L I β ρ (nthS l i) v
  | [], _, i, _, hn => by simp [nthS] at hn
  | a :: l, b :: vs, 0, ⟨h1, _⟩, _ => ⟨b, rfl, SVR_of0 h1⟩
  | a :: l, b :: vs, i + 1, ⟨_, h2⟩, hn => by
    obtain ⟨v, e1, e2⟩ := nthS_ok i h2 hn
    exact ⟨v, by simpa using e1, e2⟩

end

end Go.Proofs.Ytnffdeokhcojfaa.E

namespace Go.Proofs.Ytnffdeokhcojfaa.E
open Go
set_option linter.unusedSimpArgs false
set_option linter.unusedVariables false

section
variable {C : Ctx} {I : Set'} {β : Nat → Value} {F : Nat → List Nat} {σ : St} {w : World} {tm : Array Value}

theorem opExtract_ok (hi : Inv C I β F σ w tm) {a sv : SV} {i : Nat} {σ' : St} {va : Value}
    (ha : SVR (hpOf w) C.L I β σ.r a va) (he : opExtract a i σ = some (true, sv, σ')) : After0 C I β σ σ' w sv ((Instr.extract va i).run C.P w) := by
  unfold opExtract at he
  split at he
  · rename_i l
    obtain ⟨vs, rfl, h2⟩ := ha
    have hne : nthS l i ≠ .x := by intro h; rw [h] at he; simp at he
    obtain ⟨v, e1, e2⟩ := nthS_ok i h2 hne
    have : sv = nthS l i ∧ σ' = σ := by
      cases hq : nthS l i <;> rw [hq] at he <;> simp at he
      all_goals exact ⟨he.1.symm, he.2.symm⟩
    obtain ⟨rfl, rfl⟩ := this
    simp [Instr.extract, e1]
    exact hi.after0 e2
  · simp at he

theorem nthF_eq : ∀ (l : List Field) (f : Nat), nthF l f = l[f]?
  | [], f => by simp [nthF]
  | a :: l, 0 => rfl
  | a :: l, f + 1 => by simp [nthF, nthF_eq l f]

theorem run_fieldPlace {b o : Nat} {fd : Field} {n : Nat} (hs : szB C.T fd.type n = true) (hn : n ≠ 0) (w : World) : (fieldPlace ⟨b, o, none⟩ fd).run C.P w = .ok ⟨b, o + fd.offset, none⟩ w := by
  unfold fieldPlace
  rw [Sem.run_bind, run_size hs]
  simp only [Result.andThen_ok, if_neg hn, Sem.run_pure, addr_add]

theorem opFld_ok (hi : Inv C I β F σ w tm) {t : TypeId} {a sv : SV} {f : Nat} {σ' : St} {va : Value}
    (ha : SVR (hpOf w) C.L I β σ.r a va) (he : opFld C.T t a f σ = some (true, sv, σ')) : After0 C I β σ σ' w sv ((Instr.fieldAt t va f).run C.P w) := by
  unfold opFld at he
  split at he
  · rename_i fs hu
    split at he
    · rename_i fd hfd
      rw [nthF_eq] at hfd
      have hfd' : fs[f]? = some fd := by simpa using hfd
      split at he
      · rename_i l τ x
        split at he
        · rename_i o u y hg
          split at he
          · rename_i hc
            simp only [Bool.and_eq_true, Bool.not_eq_true'] at hc
            simp only [Option.some.injEq, Prod.mk.injEq, true_and] at he
            obtain ⟨rfl, rfl⟩ := he
            obtain ⟨b, of, arr, E', fr, rfl, h1, h2, h3, h4⟩ := q_val ha
            have ho := Nat.eq_of_beq_eq_true hc.1.1
            have hn : u.size ≠ 0 := by intro e; rw [e] at hc; simp at hc
            simp only [Instr.fieldAt, Sem.run_bind, run_underlying (und_ok hu), Result.andThen_ok, hfd', Instr.sureAddr, Sem.run_pure, run_fieldPlace hc.1.2 hn]
            refine hi.after0 ?_
            obtain ⟨Y, hY0, hY, hle⟩ := fldGet_rep hg h4
            have : Y = [] := by cases Y with | nil => rfl | cons b Y => exact absurd (hY0 b (by simp)) (by simp)
            subst this
            have hl4 := h4.len
            rw [hl4] at hle
            simp only at hle hY
            rw [ho]
            refine ⟨b, of + o, arr, E', fr, [], rfl, h2, by omega, ?_, by simp [h1]⟩
            have e : List.take u.size (List.drop o (List.take τ.size (List.drop of arr.toList))) = List.take u.size (List.drop (of + o) arr.toList) := by
              rw [List.drop_take, List.take_take, List.drop_drop]
              congr 1; omega
            rw [e] at hY; exact hY
          · simp at he
        · simp at he
      · rename_i r s
        obtain ⟨R, o, u, b, base, arr, E', fr, h1, h2, h3, h4, rfl, h5, h6, h7, h8, h9, h10⟩ := place hi ha
        rw [h1] at he
        simp only at he
        split at he
        · rename_i l oo τ x hg
          split at he
          · rename_i o' u' y hf
            split at he
            · rename_i hc
              simp only [Bool.and_eq_true, Bool.not_eq_true'] at hc
              simp only [Option.some.injEq, Prod.mk.injEq, true_and] at he
              obtain ⟨rfl, rfl⟩ := he
              obtain ⟨q1, q2, _⟩ := h10 l _ hg
              simp only at q1 q2
              subst q1; subst q2
              have ho := Nat.eq_of_beq_eq_true hc.1.1
              have hn : u'.size ≠ 0 := by intro e; rw [e] at hc; simp at hc
              simp only [Instr.fieldAt, Sem.run_bind, run_underlying (und_ok hu), Result.andThen_ok, hfd', Instr.sureAddr, Sem.run_pure, run_fieldPlace hc.1.2 hn]
              refine hi.after0 ?_
              have hfo := fldGet_off _ _ _ _ hf
              simp only at hfo
              have hoff : ∀ (s : List Sel) (t : Ty) (o : Nat) (u : Ty), selOff s t = some (o, u) → fldOff u f = some (o', u') → selOff (s ++ [.f f]) t = some (o + o', u') := by
                intro s
                induction s with
                | nil => intro t o u h h'; simp [selOff] at h; obtain ⟨rfl, rfl⟩ := h; simp [selOff, h']
                | cons z s ih =>
                  intro t o u h h'
                  cases z with
                  | f i =>
                    simp only [selOff, List.cons_append] at h ⊢
                    cases hq : fldOff t i with
                    | none => simp [hq] at h
                    | some q =>
                      simp only [hq] at h ⊢
                      cases hq2 : selOff s q.2 with
                      | none => simp [hq2] at h
                      | some q2 =>
                        simp [hq2] at h
                        obtain ⟨rfl, rfl⟩ := h
                        rw [ih q.2 q2.1 q2.2 hq2 h']
                        simp [Nat.add_assoc]
                  | i n =>
                    cases t <;> simp only [selOff, List.cons_append] at h ⊢ <;> try (simp at h; done)
                    rename_i m t
                    cases hq2 : selOff s t with
                    | none => simp [hq2] at h
                    | some q2 =>
                      simp [hq2] at h
                      obtain ⟨rfl, rfl⟩ := h
                      rw [ih t q2.1 q2.2 hq2 h']
                      simp [Nat.add_assoc]
              have hok : ∀ (s : List Sel) (t : Ty) (o : Nat) (u : Ty), selOff s t = some (o, u) → fldOff u f = some (o', u') → selOk s t → selOk (s ++ [.f f]) t := by
                intro s
                induction s with
                | nil => intro t o u h h' _; simp [selOff] at h; obtain ⟨rfl, rfl⟩ := h; simp [selOk, h']
                | cons z s ih =>
                  intro t o u h h' hk
                  cases z with
                  | f i =>
                    simp only [selOff, List.cons_append, selOk] at h hk ⊢
                    cases hq : fldOff t i with
                    | none => simp [hq] at h
                    | some q =>
                      simp only [hq] at h hk ⊢
                      cases hq2 : selOff s q.2 with
                      | none => simp [hq2] at h
                      | some q2 =>
                        simp [hq2] at h
                        obtain ⟨rfl, rfl⟩ := h
                        exact ih q.2 q2.1 q2.2 hq2 h' hk
                  | i n =>
                    cases t <;> simp only [selOff, List.cons_append, selOk] at h hk ⊢ <;> try (simp at h; done)
                    rename_i m t
                    cases hq2 : selOff s t with
                    | none => simp [hq2] at h
                    | some q2 =>
                      simp [hq2] at h
                      obtain ⟨rfl, rfl⟩ := h
                      exact ⟨hk.1, ih t q2.1 q2.2 hq2 h' hk.2⟩
              refine ⟨R, oo + o', u', h1, ?_, ?_, ?_⟩
              · cases R with
                | box l t a => exact hoff s t oo τ h2 hfo
                | arr l t xs =>
                  cases s with
                  | nil => simp [Root.off] at h2
                  | cons z s => cases z with
                    | f i => simp [Root.off] at h2
                    | i n =>
                      simp only [Root.off, List.cons_append] at h2 ⊢
                      cases hq : selOff s t with
                      | none => simp [hq] at h2
                      | some q =>
                        simp [hq] at h2
                        obtain ⟨rfl, rfl⟩ := h2
                        rw [hoff s t q.1 q.2 hq hfo]
                        simp [Nat.add_assoc]
              · cases R with
                | box l t a => exact hok s t oo τ h2 hfo h3
                | arr l t xs =>
                  cases s with
                  | nil => simp [Root.off] at h2
                  | cons z s => cases z with
                    | f i => simp [Root.off] at h2
                    | i n =>
                      simp only [Root.off] at h2
                      cases hq : selOff s t with
                      | none => simp [hq] at h2
                      | some q =>
                        simp [hq] at h2
                        obtain ⟨rfl, rfl⟩ := h2
                        exact ⟨h3.1, hok s t q.1 q.2 hq hfo h3.2⟩
              · rw [ho]
                obtain ⟨R', o'', u'', e1, e2, e3, e4⟩ := ha
                rw [h1] at e1
                obtain rfl := Option.some.inj e1
                rw [h2] at e2
                simp only [Option.some.injEq, Prod.mk.injEq] at e2
                obtain ⟨rfl, rfl⟩ := e2
                have : ∀ (v : Value) (o o' : Nat), ptrOf v o = .pointer (some ⟨b, base + o, none⟩) → ptrOf v (o + o') = .pointer (some ⟨b, base + o + o', none⟩) := by
                  intro v o o' h
                  unfold ptrOf at h ⊢
                  split at h
                  · simp at h ⊢; omega
                  · simp at h ⊢; omega
                  · simp [undef] at h
                exact (this _ _ _ e4.symm).symm
            · simp at he
          · simp at he
        · simp at he
      · simp at he
    · simp at he
  · simp at he

theorem asIntOf_run (k : IntKind) (n : Int) (w : World) : (asIntOf (.int k n)).run C.P w = .ok (k, n) w := rfl

theorem len_str {t ty : TypeId} (hu : C.P.underlying t = some .string) (s : ByteArray) : (Builtin.len_ #[t] ty #[.string s]).run C.P w = .ok (goInt s.size) w := by
  simp [Builtin.len_, run_underlying hu]
theorem len_arr {t ty e : TypeId} {n : Nat} (hu : C.P.underlying t = some (.array n e)) (v : Value) : (Builtin.len_ #[t] ty #[v]).run C.P w = .ok (goInt n) w := by
  simp [Builtin.len_, run_underlying hu]
theorem len_sl {t ty e : TypeId} (hu : C.P.underlying t = some (.slice e)) (a : Option Addr) (n c : Nat) : (Builtin.len_ #[t] ty #[.slice a n c]).run C.P w = .ok (goInt n) w := by
  simp [Builtin.len_, run_underlying hu]

theorem opLen_ok (hi : Inv C I β F σ w tm) {t ty : TypeId} {a sv : SV} {σ' : St} {va : Value}
    (ha : SVR (hpOf w) C.L I β σ.r a va) (he : opLen C.T t a σ = some (true, sv, σ')) : After0 C I β σ σ' w sv ((Builtin.len_ #[t] ty #[va]).run C.P w) := by
  unfold opLen at he
  split at he
  · rename_i hu
    split at he
    · obtain rfl := of_str ha
      simp only [Option.some.injEq, Prod.mk.injEq, true_and] at he
      obtain ⟨rfl, rfl⟩ := he
      rw [len_str (und_ok hu)]
      exact hi.after0 svr_int
    · simp at he
  · rename_i hu
    simp only [Option.some.injEq, Prod.mk.injEq, true_and] at he
    obtain ⟨rfl, rfl⟩ := he
    rw [len_arr (und_ok hu)]
    exact hi.after0 svr_int
  · rename_i hu
    split at he
    · obtain ⟨cs, ⟨a, c, rfl, _⟩, rfl⟩ := ha
      simp only [Option.some.injEq, Prod.mk.injEq, true_and] at he
      obtain ⟨rfl, rfl⟩ := he
      rw [show wrapV (.sl _ _) [Value.slice a _ c] = Value.slice a _ c from rfl, len_sl (und_ok hu)]
      exact hi.after0 svr_int
    · obtain ⟨a0, rfl⟩ : ∃ a0, va = .slice a0 0 0 := ha
      simp only [Option.some.injEq, Prod.mk.injEq, true_and] at he
      obtain ⟨rfl, rfl⟩ := he
      rw [len_sl (und_ok hu)]
      exact hi.after0 svr_int
    · rename_i r
      obtain ⟨l, u, xs, h1, h2⟩ := ha
      rw [h1] at he
      simp only [Option.some.injEq, Prod.mk.injEq, true_and] at he
      obtain ⟨rfl, rfl⟩ := he
      obtain ⟨a, c, e1, _⟩ := hi.roots r _ h1
      simp only [List.cons.injEq, and_true] at e1
      rw [h2, e1, len_sl (und_ok hu)]
      exact hi.after0 svr_int
    · rename_i r lo n
      obtain ⟨l, u, xs, h1, h2, h3⟩ := ha
      rw [h1] at he
      simp only [Option.some.injEq, Prod.mk.injEq, true_and] at he
      obtain ⟨rfl, rfl⟩ := he
      obtain ⟨a, m, c, a', c', f1, f2, _⟩ := h3
      rw [f2, len_sl (und_ok hu)]
      exact hi.after0 svr_int
    · simp at he
  · simp at he

end

end Go.Proofs.Ytnffdeokhcojfaa.E

namespace Go.Proofs.Ytnffdeokhcojfaa.E
open Go
set_option linter.unusedSimpArgs false
set_option linter.unusedVariables false

section
variable {C : Ctx} {I : Set'} {β : Nat → Value} {F : Nat → List Nat} {σ : St} {w : World} {tm : Array Value}

theorem run_idx_sl {t e : TypeId} {n b o len c : Nat} {k : IntKind} {i : Int} (hu : C.P.underlying t = some (.slice e)) (hs : szB C.T e n = true) (h0 : 0 ≤ i) (h1 : i < len) :
    (Instr.indexAt t (.slice (some ⟨b, o, none⟩) len c) (.int k i)).run C.P w = .ok (.pointer (some ⟨b, o + i.toNat * n, none⟩)) w := by
  simp [Instr.indexAt, Sem.run_bind, asIntOf_run, run_underlying hu, run_size hs, h0, h1, addr_add]

theorem run_idx_arr {t e : TypeId} {n b o len : Nat} {k : IntKind} {i : Int} (hu : C.P.underlying t = some (.array len e)) (hs : szB C.T e n = true) (h0 : 0 ≤ i) (h1 : i < len) :
    (Instr.indexAt t (.pointer (some ⟨b, o, none⟩)) (.int k i)).run C.P w = .ok (.pointer (some ⟨b, o + i.toNat * n, none⟩)) w := by
  simp [Instr.indexAt, Sem.run_bind, asIntOf_run, run_underlying hu, run_size hs, h0, h1, addr_add, Instr.sureAddr]

/-- a slice that isn't empty stands in a block -/
theorem sl_block {h : Hp} {S : Set'} {len o : Bool} {t : Ty} {xs : List (den t)} {v : Value} {X : List Nat} (hr : Rep h S len (.sl o t) xs [v] X) (hn : 0 < xs.length) :
    ∃ b of c arr E fr X', v = .slice (some ⟨b, of, none⟩) xs.length c ∧ xs.length ≤ c ∧ h b = some (.cells arr E fr) ∧ of + c * t.size ≤ arr.size ∧ RL (Rep h S len t) xs ((arr.toList.drop of).take (xs.length * t.size)) X' ∧
      if o && !len then X = b :: X' ∧ calm arr.size fr else S b ∧ X = [] ∧ X' = [] := by
  obtain ⟨a, c, e1, e2, e3⟩ := hr
  simp only [List.cons.injEq, and_true] at e1
  rcases e3 with ⟨e3, _⟩ | ⟨b, of, arr, E', fr, X', f1, f2, f3, f4, f5⟩
  · rw [e3] at hn; simp at hn
  · subst f1
    exact ⟨b, of, c, arr, E', fr, X', e1, e2, f2, f3, f4, f5⟩

theorem ptrOf_sl (b o n c k : Nat) : ptrOf (.slice (some ⟨b, o, none⟩) n c) k = .pointer (some ⟨b, o + k, none⟩) := rfl

theorem selOff_snoc_i {u : Ty} {m : Nat} {n : Nat} : ∀ (s : List Sel) (t : Ty) (o : Nat), selOff s t = some (o, .arr m u) → selOff (s ++ [.i n]) t = some (o + n * u.size, u)
  | [], t, o, h => by simp [selOff] at h; obtain ⟨rfl, rfl⟩ := h; simp [selOff]
  | .f i :: s, t, o, h => by
    simp only [selOff, List.cons_append] at h ⊢
    cases hq : fldOff t i with
    | none => simp [hq] at h
    | some q =>
      simp only [hq] at h ⊢
      cases hq2 : selOff s q.2 with
      | none => simp [hq2] at h
      | some q2 =>
        obtain ⟨q2o, q2t⟩ := q2
        simp [hq2] at h
        obtain ⟨rfl, rfl⟩ := h
        rw [selOff_snoc_i s q.2 q2o hq2]
        simp [Nat.add_assoc]
  | .i j :: s, t, o, h => by
    cases t <;> simp only [selOff, List.cons_append] at h ⊢ <;> try (simp at h; done)
    rename_i m' t
    cases hq2 : selOff s t with
    | none => simp [hq2] at h
    | some q2 =>
      obtain ⟨q2o, q2t⟩ := q2
      simp [hq2] at h
      obtain ⟨rfl, rfl⟩ := h
      rw [selOff_snoc_i s t q2o hq2]
      simp [Nat.add_assoc]

theorem selOk_snoc_i {u : Ty} {m : Nat} {n : Nat} (hn : n < m) : ∀ (s : List Sel) (t : Ty) (o : Nat), selOff s t = some (o, .arr m u) → selOk s t → selOk (s ++ [.i n]) t
  | [], t, o, h, _ => by simp [selOff] at h; obtain ⟨rfl, rfl⟩ := h; exact ⟨hn, trivial⟩
  | .f i :: s, t, o, h, hk => by
    simp only [selOff, List.cons_append, selOk] at h hk ⊢
    cases hq : fldOff t i with
    | none => simp [hq] at h
    | some q =>
      simp only [hq] at h hk ⊢
      cases hq2 : selOff s q.2 with
      | none => simp [hq2] at h
      | some q2 =>
        obtain ⟨q2o, q2t⟩ := q2
        simp [hq2] at h
        obtain ⟨rfl, rfl⟩ := h
        exact selOk_snoc_i hn s q.2 q2o hq2 hk
  | .i j :: s, t, o, h, hk => by
    cases t <;> simp only [selOff, List.cons_append, selOk] at h hk ⊢ <;> try (simp at h; done)
    rename_i m' t
    cases hq2 : selOff s t with
    | none => simp [hq2] at h
    | some q2 =>
      obtain ⟨q2o, q2t⟩ := q2
      simp [hq2] at h
      obtain ⟨rfl, rfl⟩ := h
      exact ⟨hk.1, selOk_snoc_i hn s t q2o hq2 hk.2⟩

theorem opIdxA_ok (hi : Inv C I β F σ w tm) {t : TypeId} {a i sv : SV} {σ' : St} {va vi : Value}
    (ha : SVR (hpOf w) C.L I β σ.r a va) (hin : SVR (hpOf w) C.L I β σ.r i vi) (he : opIdxA C.T t a i σ = some (true, sv, σ')) : After0 C I β σ σ' w sv ((Instr.indexAt t va vi).run C.P w) := by
  unfold opIdxA at he
  split at he
  · rename_i li k n
    change Int at n
    obtain rfl := of_int hin
    split at he
    · rename_i e hu
      split at he
      · rename_i l o u xs
        split at he
        · rename_i hc
          simp only [Bool.and_eq_true] at hc
          simp only [Option.some.injEq, Prod.mk.injEq, inB_iff] at he
          obtain ⟨⟨h0, h1⟩, rfl, rfl⟩ := he
          obtain ⟨cs, hr, hv⟩ := ha
          obtain ⟨c1, rfl⟩ : ∃ c, cs = [c] := List.length_eq_one_iff.1 hr.len
          obtain rfl : va = c1 := hv
          obtain ⟨b, of, c, arr, E', fr, X', rfl, g2, g3, g4, g5, g6⟩ := sl_block hr (by omega)
          simp only [Bool.not_true, Bool.and_false, Bool.false_eq_true, if_false] at g6
          obtain ⟨g6, _, rfl⟩ := g6
          rw [run_idx_sl (und_ok hu) hc.1 h0 h1]
          refine hi.after0 ?_
          obtain ⟨Y, hY, _, hR, hle⟩ := RL.get (fun _ _ _ => Rep.len) (dflt u) n.toNat (by omega) g5
          have : Y = [] := by cases Y with | nil => rfl | cons b Y => exact absurd (hY b (by simp)) (by simp)
          subst this
          have hm : n.toNat * u.size + u.size ≤ xs.length * u.size := by rw [← Nat.succ_mul]; exact Nat.mul_le_mul_right _ (by omega)
          have hm2 : xs.length * u.size ≤ c * u.size := Nat.mul_le_mul_right _ g2
          refine ⟨b, of + n.toNat * u.size, arr, E', fr, [], rfl, g3, by omega, ?_, by simp [g6]⟩
          have e : List.take u.size (List.drop (n.toNat * u.size) (List.take (xs.length * u.size) (List.drop of arr.toList))) = List.take u.size (List.drop (of + n.toNat * u.size) arr.toList) := by
            rw [List.drop_take, List.take_take, List.drop_drop]
            congr 1; omega
          rw [e] at hR; exact hR
        · simp at he
      · rename_i r
        obtain ⟨l, u, xs, h1, rfl⟩ := ha
        rw [h1] at he
        simp only at he
        split at he
        · rename_i hc
          simp only [Bool.and_eq_true] at hc
          simp only [Option.some.injEq, Prod.mk.injEq, inB_iff] at he
          obtain ⟨⟨h0, h2⟩, rfl, rfl⟩ := he
          obtain ⟨b, of, c, arr, E', fr, X', e1, _⟩ := sl_block (hi.roots r _ h1) (by omega)
          rw [e1, run_idx_sl (und_ok hu) hc.1 h0 h2]
          refine hi.after0 ⟨_, n.toNat * u.size + 0, u, h1, by simp [Root.off, selOff], ⟨by omega, trivial⟩, ?_⟩
          rw [e1, ptrOf_sl]; simp
        · simp at he
      · rename_i r lo m
        obtain ⟨l, u, xs, h1, h2, h3⟩ := ha
        rw [h1] at he
        simp only at he
        split at he
        · rename_i hc
          simp only [Bool.and_eq_true] at hc
          simp only [Option.some.injEq, Prod.mk.injEq, inB_iff] at he
          obtain ⟨⟨h0, h4⟩, rfl, rfl⟩ := he
          obtain ⟨b, of, c, arr, E', fr, X', e1, _⟩ := sl_block (hi.roots r _ h1) (by omega)
          obtain ⟨a0, m0, c0, a', c', f1, rfl, f3, f4, f5⟩ := h3
          rw [e1] at f1
          simp only [Value.slice.injEq] at f1
          obtain ⟨rfl, rfl, rfl⟩ := f1
          rcases f5 with ⟨_, _, f5⟩ | ⟨b', o', k', f5, rfl, _, f8⟩
          · omega
          · have hk : lo = k' := by omega
            subst hk
            simp only [Option.some.injEq, Addr.mk.injEq, and_true] at f5
            obtain ⟨rfl, rfl⟩ := f5
            rw [run_idx_sl (und_ok hu) hc.1 h0 h4]
            refine hi.after0 ⟨_, (lo + n.toNat) * u.size + 0, u, h1, by simp [Root.off, selOff], ⟨by omega, trivial⟩, ?_⟩
            rw [e1, ptrOf_sl]; simp [Nat.add_mul, Nat.add_assoc]
        · simp at he
      · simp at he
      · simp at he
    · rename_i m e hu
      split at he
      · rename_i r s
        obtain ⟨R, o, u, b, base, arr, E', fr, h1, h2, h3, h4, rfl, h5, h6, h7, h8, h9, h10⟩ := place hi ha
        rw [h1] at he
        simp only at he
        split at he
        · rename_i l oo m' u' x hg
          split at he
          · rename_i hc
            simp only [Bool.and_eq_true] at hc
            simp only [Option.some.injEq, Prod.mk.injEq, inB_iff] at he
            obtain ⟨⟨h0, h11⟩, rfl, rfl⟩ := he
            obtain ⟨q1, q2, _⟩ := h10 l _ hg
            simp only at q1 q2
            subst q1; subst q2
            obtain rfl := Nat.eq_of_beq_eq_true hc.2
            rw [run_idx_arr (und_ok hu) hc.1.1 h0 h11]
            refine hi.after0 ⟨R, oo + n.toNat * u'.size, u', h1, ?_, ?_, ?_⟩
            · cases R with
              | box l t a => exact selOff_snoc_i s t oo h2
              | arr l t xs =>
                cases s with
                | nil => simp [Root.off] at h2
                | cons z s => cases z with
                  | f i => simp [Root.off] at h2
                  | i j =>
                    simp only [Root.off, List.cons_append] at h2 ⊢
                    cases hq : selOff s t with
                    | none => simp [hq] at h2
                    | some q =>
                      obtain ⟨q2o, q2t⟩ := q
                      simp [hq] at h2
                      obtain ⟨rfl, rfl⟩ := h2
                      rw [selOff_snoc_i s t q2o hq]
                      simp [Nat.add_assoc]
            · have hlt : n.toNat < m := by omega
              cases R with
              | box l t a => exact selOk_snoc_i hlt s t oo h2 h3
              | arr l t xs =>
                cases s with
                | nil => simp [Root.off] at h2
                | cons z s => cases z with
                  | f i => simp [Root.off] at h2
                  | i j =>
                    simp only [Root.off] at h2
                    cases hq : selOff s t with
                    | none => simp [hq] at h2
                    | some q =>
                      obtain ⟨q2o, q2t⟩ := q
                      simp [hq] at h2
                      obtain ⟨rfl, rfl⟩ := h2
                      exact ⟨h3.1, selOk_snoc_i hlt s t q2o hq h3.2⟩
            · obtain ⟨R', o'', u'', e1, e2, e3, e4⟩ := ha
              rw [h1] at e1
              obtain rfl := Option.some.inj e1
              rw [h2] at e2
              simp only [Option.some.injEq, Prod.mk.injEq] at e2
              obtain ⟨rfl, rfl⟩ := e2
              have : ∀ (v : Value) (o o' : Nat), ptrOf v o = .pointer (some ⟨b, base + o, none⟩) → ptrOf v (o + o') = .pointer (some ⟨b, base + o + o', none⟩) := by
                intro v o o' h
                unfold ptrOf at h ⊢
                split at h
                · simp at h ⊢; omega
                · simp at h ⊢; omega
                · simp [undef] at h
              exact (this _ _ _ e4.symm).symm
          · simp at he
        · simp at he
      · simp at he
    · simp at he
  · simp at he

theorem part_run {t : TypeId} {τ : Ty} (hf : fits C.T t τ = true) {cs : List Value} {o : Nat} (hn : o + τ.size ≤ cs.length) (w : World) :
    (part t cs.toArray o).run C.P w = .ok (wrapV τ ((cs.drop o).take τ.size)) w := by
  simp only [fits, Bool.and_eq_true] at hf
  unfold part
  rw [Sem.run_bind, run_agg hf.2]
  simp only [Result.andThen_ok]
  cases ha : τ.isAgg with
  | true =>
    simp only [if_true, Sem.run_bind, run_size hf.1, Result.andThen_ok, Sem.run_pure, wrapV, ha]
    congr 2
    apply Array.toList_inj.1
    simp [Array.toList_extract, List.extract_eq_take_drop]
  | false =>
    have h1 : τ.size = 1 := by cases τ <;> simp_all [Ty.isAgg, Ty.size]
    have hlt : o < cs.length := by omega
    have hd : (cs.drop o).take 1 = [cs[o]] := by
      rw [List.take_one]
      simp [List.head?_drop, hlt]
    simp [hlt, wrapV, ha, h1, hd]

theorem opIdx_ok (hi : Inv C I β F σ w tm) {t : TypeId} {a i sv : SV} {σ' : St} {va vi : Value}
    (ha : SVR (hpOf w) C.L I β σ.r a va) (hin : SVR (hpOf w) C.L I β σ.r i vi) (he : opIdx C.T t a i σ = some (true, sv, σ')) : After0 C I β σ σ' w sv ((Instr.index t va vi).run C.P w) := by
  unfold opIdx at he
  split at he
  · rename_i li k n
    change Int at n
    obtain rfl := of_int hin
    split at he
    · rename_i l s hu
      obtain rfl := of_str ha
      simp only [Option.some.injEq, Prod.mk.injEq, inB_iff] at he
      obtain ⟨⟨h0, h1⟩, rfl, rfl⟩ := he
      have hlt : n.toNat < s.length := by omega
      have hb : (⟨⟨s⟩⟩ : ByteArray)[n.toNat]? = some (s.getD n.toNat 0) := by
        have : n.toNat < (⟨⟨s⟩⟩ : ByteArray).size := hlt
        rw [getElem?_pos (⟨⟨s⟩⟩ : ByteArray) n.toNat this]
        simp [hlt]
        rfl
      simp only [Instr.index, Sem.run_bind, asIntOf_run, Result.andThen_ok, run_underlying (und_ok hu), if_pos h0, hb]
      exact hi.after0 svr_int
    · rename_i m e l m' u xs hu
      split at he
      · rename_i hc
        simp only [Bool.and_eq_true] at hc
        simp only [Option.some.injEq, Prod.mk.injEq, inB_iff] at he
        obtain ⟨⟨h0, h1⟩, rfl, rfl⟩ := he
        obtain rfl := Nat.eq_of_beq_eq_true hc.2
        obtain ⟨cs, ⟨hlen, hr⟩, rfl⟩ := ha
        obtain ⟨Y, hY, _, hR, hle⟩ := RL.get (fun _ _ _ => Rep.len) (dflt u) n.toNat (by omega) hr
        have : Y = [] := by cases Y with | nil => rfl | cons b Y => exact absurd (hY b (by simp)) (by simp)
        subst this
        have hs : szB C.T e u.size = true := by have := hc.1; simp only [fits, Bool.and_eq_true] at this; exact this.1
        have hw : wrapV (.arr m u) cs = .agg cs.toArray := rfl
        simp only [Instr.index, hw, Sem.run_bind, asIntOf_run, Result.andThen_ok, run_underlying (und_ok hu), h0, h1, and_self, if_true, run_size hs, part_run hc.1 hle]
        exact hi.after0 (mkv_ok hR)
      · simp at he
    · simp at he
  · simp at he

theorem opField_ok (hi : Inv C I β F σ w tm) {t : TypeId} {a sv : SV} {f : Nat} {σ' : St} {va : Value}
    (ha : SVR (hpOf w) C.L I β σ.r a va) (he : opField C.T t a f σ = some (true, sv, σ')) : After0 C I β σ σ' w sv ((Instr.field t va f).run C.P w) := by
  unfold opField at he
  split at he
  · rename_i fs hu
    split at he
    · rename_i fd hfd
      rw [nthF_eq] at hfd
      have hfd' : fs[f]? = some fd := by simpa using hfd
      split at he
      · rename_i l τ x
        split at he
        · rename_i o u y hg
          split at he
          · rename_i hc
            simp only [Bool.and_eq_true] at hc
            simp only [Option.some.injEq, Prod.mk.injEq, true_and] at he
            obtain ⟨rfl, rfl⟩ := he
            obtain ⟨cs, hr, rfl⟩ := ha
            have hw : wrapV τ cs = .agg cs.toArray := by simp [wrapV, hc.2]
            have ho := Nat.eq_of_beq_eq_true hc.1.1
            obtain ⟨Y, hY0, hY, hle⟩ := fldGet_rep hg hr
            have : Y = [] := by cases Y with | nil => rfl | cons b Y => exact absurd (hY0 b (by simp)) (by simp)
            subst this
            simp only [Instr.field, hw, Sem.run_bind, run_underlying (und_ok hu), Result.andThen_ok, hfd', asAgg, Sem.run_pure, ho, part_run hc.1.2 hle]
            exact hi.after0 (mkv_ok hY)
          · simp at he
        · simp at he
      · simp at he
    · simp at he
  · simp at he

end

end Go.Proofs.Ytnffdeokhcojfaa.E

namespace Go.Proofs.Ytnffdeokhcojfaa.E
open Go
set_option linter.unusedSimpArgs false
set_option linter.unusedVariables false

section
variable {C : Ctx} {I : Set'} {β : Nat → Value} {F : Nat → List Nat} {σ : St} {w : World} {tm : Array Value}

/-- what may be told, or not -/
def OptR (h : Hp) (L I : Set') (β : Nat → Value) (ρ : List (Nat × Root)) : Option SV → Option Value → Prop
  | none, none => True
  | some sv, some v => SVR h L I β ρ sv v
  | _, _ => False

theorem run_bound {k : IntKind} {i : Int} {y : Nat} {code : BoundsCode} (h0 : 0 ≤ i) (h1 : i ≤ y) (w : World) : (Instr.sliceBound (.int k i) y code).run C.P w = .ok i.toNat w := by
  simp [Instr.sliceBound, Sem.run_bind, asIntOf_run, h0, h1]

theorem bndM_ok {h : Hp} {L : Set'} {ρ : List (Nat × Root)} {n cap : Nat} {mx : Option SV} {vmx : Option Value} {code : BoundsCode} (hcap : n ≤ cap) (hmx : OptR h L I β ρ mx vmx) {m : Nat} (hb : bndM n mx = some (true, m)) :
    ∃ m', m ≤ n ∧ m ≤ m' ∧ m' ≤ cap ∧ (mx = none → m = n) ∧ vmx.isSome = mx.isSome ∧ ∀ w, ((match vmx with | some v => Instr.sliceBound v cap code | none => pure cap : Sem Nat)).run C.P w = .ok m' w := by
  unfold bndM at hb
  split at hb
  · cases vmx with
    | some _ => exact hmx.elim
    | none =>
      simp at hb
      exact ⟨cap, by omega, by omega, Nat.le_refl _, fun _ => hb.symm, rfl, fun _ => rfl⟩
  · rename_i l' k i
    cases vmx with
    | none => exact hmx.elim
    | some v =>
      obtain rfl := of_int (h := h) (L := L) (I := I) (β := β) (ρ := ρ) hmx
      simp only [Option.some.injEq, Prod.mk.injEq, leB_iff] at hb
      obtain ⟨⟨q1, q2⟩, rfl⟩ := hb
      exact ⟨i.toNat, by omega, Nat.le_refl _, by omega, by simp, rfl, fun w => run_bound q1 (by omega) w⟩
  · simp at hb

theorem bndH_ok {h : Hp} {L : Set'} {ρ : List (Nat × Root)} {n m m' : Nat} {hi : Option SV} {vhi vmx : Option Value} {c1 c2 : BoundsCode} {z : Bool} (hm : m ≤ n) (hm' : m ≤ m') (hhi : OptR h L I β ρ hi vhi) (hz : z = false → m = n) (hv : vmx.isSome = z) {e : Nat} (hb : bndH n m hi z = some (true, e)) :
    e ≤ m ∧ (hi = none → e = n) ∧ ∀ w, ((match vhi, vmx with
        | some v, some _ => Instr.sliceBound v m' c1
        | some v, none => Instr.sliceBound v m' c2
        | none, none => pure n
        | none, some _ => stuck "Slice: max without high" : Sem Nat)).run C.P w = .ok e w := by
  unfold bndH at hb
  split at hb
  · cases vhi with
    | some _ => exact hhi.elim
    | none => cases vmx with
      | some _ => simp at hv
      | none =>
        simp at hb
        have := hz rfl
        exact ⟨by omega, fun _ => hb.symm, fun _ => by rw [hb]; rfl⟩
  · rename_i l' k i
    cases vhi with
    | none => exact hhi.elim
    | some v =>
      obtain rfl := of_int (h := h) (L := L) (I := I) (β := β) (ρ := ρ) hhi
      simp only [Option.some.injEq, Prod.mk.injEq, leB_iff] at hb
      obtain ⟨⟨q1, q2⟩, rfl⟩ := hb
      refine ⟨by omega, by simp, fun w => ?_⟩
      cases vmx with
      | none => exact run_bound q1 (by omega) w
      | some _ => exact run_bound q1 (by omega) w
  · simp at hb

theorem bndL_ok {h : Hp} {L : Set'} {ρ : List (Nat × Root)} {e : Nat} {lo : Option SV} {vlo : Option Value} {code : BoundsCode} (hlo : OptR h L I β ρ lo vlo) {l : Nat} (hb : bndL e lo = some (true, l)) :
    l ≤ e ∧ (lo = none → l = 0) ∧ ∀ w, ((match vlo with | some v => Instr.sliceBound v e code | none => pure 0 : Sem Nat)).run C.P w = .ok l w := by
  unfold bndL at hb
  split at hb
  · cases vlo with
    | some _ => exact hlo.elim
    | none => simp at hb; subst hb; exact ⟨Nat.zero_le _, fun _ => rfl, fun _ => rfl⟩
  · rename_i l' k i
    cases vlo with
    | none => exact hlo.elim
    | some v =>
      obtain rfl := of_int (h := h) (L := L) (I := I) (β := β) (ρ := ρ) hlo
      simp only [Option.some.injEq, Prod.mk.injEq, leB_iff] at hb
      obtain ⟨⟨q1, q2⟩, rfl⟩ := hb
      exact ⟨by omega, by simp, fun w => run_bound q1 (by omega) w⟩
  · simp at hb

theorem bnd_ok {h : Hp} {L : Set'} {ρ : List (Nat × Root)} {n cap : Nat} {lo hi mx : Option SV} {vlo vhi vmx : Option Value} (b : Bool) (hcap : n ≤ cap) (hlo : OptR h L I β ρ lo vlo) (hhi : OptR h L I β ρ hi vhi) (hmx : OptR h L I β ρ mx vmx) {l e : Nat}
    (hb : bnd n lo hi mx = some (true, l, e)) (w : World) : ∃ m, (Instr.sliceBounds b n cap vlo vhi vmx).run C.P w = .ok (l, e, m) w ∧ l ≤ e ∧ e ≤ n ∧ e ≤ m ∧ m ≤ cap ∧ (lo = none → l = 0) ∧ (hi = none → e = n) := by
  unfold bnd at hb
  cases h1 : bndM n mx with
  | none => simp [h1] at hb
  | some q1 =>
    obtain ⟨cm, m⟩ := q1
    simp only [h1] at hb
    cases h2 : bndH n m hi mx.isSome with
    | none => simp [h2] at hb
    | some q2 =>
      obtain ⟨ch, e'⟩ := q2
      simp only [h2] at hb
      cases h3 : bndL e' lo with
      | none => simp [h3] at hb
      | some q3 =>
        obtain ⟨cl, l'⟩ := q3
        simp [h3] at hb
        obtain ⟨⟨⟨rfl, rfl⟩, rfl⟩, rfl, rfl⟩ := hb
        obtain ⟨m', a1, a2, a3, a4, a5, a6⟩ := bndM_ok (C := C) (code := (if b = true then BoundsCode.slice3Acap else .slice3Alen)) hcap hmx h1
        obtain ⟨b1, b2, b3⟩ := bndH_ok (C := C) (m' := m') (c1 := .slice3B) (c2 := (if b = true then BoundsCode.sliceAcap else .sliceAlen)) a1 a2 hhi (fun hz => a4 (by cases mx <;> simp at hz ⊢)) a5 h2
        obtain ⟨d1, d2, d3⟩ := bndL_ok (C := C) (code := (if vmx.isSome = true then BoundsCode.slice3C else .sliceB)) hlo h3
        refine ⟨m', ?_, d1, by omega, by omega, a3, d2, b2⟩
        have a6 := a6 w
        have b3 := b3 w
        have d3 := d3 w
        clear a5 hmx hhi hlo h1 h2 h3
        unfold Instr.sliceBounds
        cases vmx <;> cases vhi <;> cases vlo <;> simp only [Sem.run_bind, Sem.run_pure, Result.andThen_ok, Option.isSome, if_true, if_false, Bool.false_eq_true] at a6 b3 d3 ⊢
        all_goals simp_all

theorem cutL_eq {α : Type} (xs : List α) {lo hi mx : Option SV} {l e : Nat} (h1 : lo = none → l = 0) (h2 : hi = none → e = xs.length) (h3 : e ≤ xs.length) : cutL xs lo hi mx l e = (xs.drop l).take (e - l) := by
  unfold cutL
  cases lo with
  | none =>
    obtain rfl := h1 rfl
    cases hi with
    | none => obtain rfl := h2 rfl; simp
    | some _ => simp
  | some _ =>
    cases hi with
    | none => obtain rfl := h2 rfl; simp; rw [List.take_of_length_le (by simp)]
    | some _ => simp [List.drop_take]

theorem sub_sub {v u x : Value} {sz lo n l k : Nat} (h1 : subOf v sz lo n u) (h2 : subOf u sz l k x) : subOf v sz (lo + l) k x := by
  obtain ⟨a, m, c, a', c', rfl, rfl, e3, e4, e5⟩ := h1
  obtain ⟨b, n', d, b', d', f1, rfl, f3, f4, f5⟩ := h2
  simp only [Value.slice.injEq] at f1
  obtain ⟨rfl, rfl, rfl⟩ := f1
  refine ⟨a, m, c, b', d', rfl, rfl, f3, by omega, ?_⟩
  rcases e5 with ⟨e5, e6, e7⟩ | ⟨bb, oo, kk, e5, e6, e7, e8⟩
  · exact .inl ⟨rfl, rfl, by omega⟩
  · rcases f5 with ⟨_, _, f5⟩ | ⟨b2, o2, k2, f5, f6, f7, f8⟩
    · exact .inl ⟨rfl, rfl, f5⟩
    · rw [e6] at f5
      simp only [Option.some.injEq, Addr.mk.injEq, and_true] at f5
      obtain ⟨rfl, rfl⟩ := f5
      exact .inr ⟨bb, oo, kk + k2, e5, by rw [f6, Nat.add_mul]; simp [Nat.add_assoc], by omega, by omega⟩

end

end Go.Proofs.Ytnffdeokhcojfaa.E

namespace Go.Proofs.Ytnffdeokhcojfaa.E
open Go
set_option linter.unusedSimpArgs false
set_option linter.unusedVariables false

section
variable {C : Ctx} {I : Set'} {β : Nat → Value} {F : Nat → List Nat} {σ : St} {w : World} {tm : Array Value}

theorem run_slice_sl {t e : TypeId} {n len cap l h m : Nat} {a : Option Addr} {lo hi mx : Option Value} (hu : C.P.underlying t = some (.slice e)) (hs : szB C.T e n = true)
    (hb : (Instr.sliceBounds true len cap lo hi mx).run C.P w = .ok (l, h, m) w) :
    (Instr.sliceAt t (.slice a len cap) lo hi mx).run C.P w = .ok (.slice (if m = l then a else a.map (·.add (l * n))) (h - l) (m - l)) w := by
  simp [Instr.sliceAt, Instr.slice, Sem.run_bind, run_underlying hu, hb, run_size hs]

theorem run_slice_str {t : TypeId} {s : ByteArray} {l h m : Nat} {lo hi : Option Value} (hu : C.P.underlying t = some .string)
    (hb : (Instr.sliceBounds false s.size s.size lo hi none).run C.P w = .ok (l, h, m) w) :
    (Instr.sliceAt t (.string s) lo hi none).run C.P w = .ok (.string (s.extract l h)) w := by
  simp [Instr.sliceAt, Instr.slice, Sem.run_bind, run_underlying hu, hb]

theorem ba_extract (s : List UInt8) (l h : Nat) : (⟨⟨s⟩⟩ : ByteArray).extract l h = ⟨⟨(s.drop l).take (h - l)⟩⟩ := by
  apply ByteArray.ext
  apply Array.toList_inj.1
  simp [ByteArray.data_extract, Array.toList_extract, List.extract_eq_take_drop]

theorem sub_result {sz len cap l h m : Nat} {a : Option Addr} (hsp : cap = 0 ∨ ∀ x, a = some x → x.spot = none) (hnil : a = none → cap = 0) (h1 : l ≤ h) (h2 : h ≤ m) (h3 : m ≤ cap) :
    subOf (.slice a len cap) sz l (h - l) (.slice (if m = l then a else a.map (·.add (l * sz))) (h - l) (m - l)) := by
  refine ⟨a, len, cap, _, m - l, rfl, rfl, by omega, by omega, ?_⟩
  rcases hsp with hsp | hsp
  · exact .inl ⟨rfl, rfl, by omega⟩
  cases a with
  | none =>
    have := hnil rfl
    exact .inl ⟨rfl, rfl, by omega⟩
  | some x =>
    obtain ⟨b, o, s⟩ := x
    obtain rfl := hsp _ rfl
    by_cases he : m = l
    · exact .inr ⟨b, o, 0, rfl, by simp [he], by omega, .inl (by omega)⟩
    · exact .inr ⟨b, o, l, rfl, by simp [he, addr_add], by omega, .inr rfl⟩

theorem sl_shape {h : Hp} {S : Set'} {len o : Bool} {t : Ty} {xs : List (den t)} {v : Value} {X : List Nat} (hr : Rep h S len (.sl o t) xs [v] X) :
    ∃ a c, v = .slice a xs.length c ∧ xs.length ≤ c ∧ (c = 0 ∨ ∀ x, a = some x → x.spot = none) ∧ (a = none → c = 0) := by
  obtain ⟨a, c, e1, e2, e3⟩ := hr
  simp only [List.cons.injEq, and_true] at e1
  refine ⟨a, c, e1, e2, ?_, ?_⟩
  · rcases e3 with ⟨_, _, e3, _⟩ | ⟨b, of, arr, E', fr, X', rfl, _⟩
    · exact .inl e3
    · refine .inr ?_; intro x hx; simp at hx; subst hx; rfl
  · rcases e3 with ⟨_, _, e3, _⟩ | ⟨b, of, arr, E', fr, X', rfl, _⟩
    · exact fun _ => e3
    · simp

theorem opSlice_ok (hi : Inv C I β F σ w tm) {t : TypeId} {a sv : SV} {lo hh mx : Option SV} {σ' : St} {va : Value} {vlo vhi vmx : Option Value}
    (ha : SVR (hpOf w) C.L I β σ.r a va) (hlo : OptR (hpOf w) C.L I β σ.r lo vlo) (hhi : OptR (hpOf w) C.L I β σ.r hh vhi) (hmx : OptR (hpOf w) C.L I β σ.r mx vmx)
    (he : opSlice C.T t a lo hh mx σ = some (true, sv, σ')) : After0 C I β σ σ' w sv ((Instr.sliceAt t va vlo vhi vmx).run C.P w) := by
  unfold opSlice at he
  split at he
  · rename_i hu
    split at he
    · rename_i l s
      obtain rfl := of_str ha
      cases vmx with
      | some _ => exact hmx.elim
      | none =>
        split at he
        · rename_i c l' h' hb
          simp only [Option.some.injEq, Prod.mk.injEq] at he
          obtain ⟨rfl, rfl, rfl⟩ := he
          obtain ⟨m, hr, q1, q2, q3, q4, q5, q6⟩ := bnd_ok (C := C) false (Nat.le_refl _) hlo hhi (show OptR (hpOf w) C.L I β σ.r none none from trivial) hb w
          rw [run_slice_str (s := ⟨⟨s⟩⟩) (und_ok hu) hr, ba_extract, cutL_eq s q5 q6 q2]
          exact hi.after0 svr_str
        · simp at he
    · simp at he
  · rename_i e hu
    split at he
    · rename_i l o u xs
      split at he
      · rename_i hc
        simp only [Bool.and_eq_true] at hc
        split at he
        · rename_i c l' h' hb
          simp only [Option.some.injEq, Prod.mk.injEq] at he
          obtain ⟨rfl, rfl, rfl⟩ := he
          obtain ⟨cs, hr, hv⟩ := ha
          obtain ⟨c1, rfl⟩ : ∃ c, cs = [c] := List.length_eq_one_iff.1 hr.len
          obtain rfl : va = c1 := hv
          obtain ⟨a, c, rfl, e2, e3, e4⟩ := sl_shape hr
          obtain ⟨m, hr', q1, q2, q3, q4, q5, q6⟩ := bnd_ok (C := C) true e2 hlo hhi hmx hb w
          rw [run_slice_sl (und_ok hu) hc.1 hr', cutL_eq xs q5 q6 q2]
          have hs := sub_result (sz := u.size) (len := xs.length) e3 e4 q1 q3 q4
          exact hi.after0 ⟨_, sub_rep hr hs (by omega), rfl⟩
        · simp at he
      · simp at he
    · rename_i r
      obtain ⟨l, u, xs, h1, rfl⟩ := ha
      rw [h1] at he
      simp only at he
      split at he
      · rename_i hc
        simp only [Bool.and_eq_true] at hc
        split at he
        · rename_i c l' h' hb
          simp only [Option.some.injEq, Prod.mk.injEq] at he
          obtain ⟨rfl, rfl, rfl⟩ := he
          obtain ⟨a, c, e1, e2, e3, e4⟩ := sl_shape (hi.roots r _ h1)
          obtain ⟨m, hr', q1, q2, q3, q4, q5, q6⟩ := bnd_ok (C := C) true e2 hlo hhi hmx hb w
          rw [e1, run_slice_sl (und_ok hu) hc.1 hr']
          refine hi.after0 ⟨l, u, xs, h1, by omega, ?_⟩
          rw [e1]
          exact sub_result e3 e4 q1 q3 q4
        · simp at he
      · simp at he
    · rename_i r b n
      obtain ⟨l, u, xs, h1, h2, h3⟩ := ha
      rw [h1] at he
      simp only at he
      split at he
      · rename_i hc
        simp only [Bool.and_eq_true] at hc
        split at he
        · rename_i c l' h' hb
          simp only [Option.some.injEq, Prod.mk.injEq] at he
          obtain ⟨rfl, rfl, rfl⟩ := he
          have h3' := h3
          obtain ⟨a0, m0, c0, a', c', f1, rfl, f3, f4, f5⟩ := h3
          obtain ⟨m, hr', q1, q2, q3, q4, q5, q6⟩ := bnd_ok (C := C) true f3 hlo hhi hmx hb w
          rw [run_slice_sl (und_ok hu) hc.1 hr']
          refine hi.after0 ⟨l, u, xs, h1, by omega, ?_⟩
          refine sub_sub h3' (sub_result ?_ ?_ q1 q3 q4)
          · rcases f5 with ⟨_, _, f5⟩ | ⟨bb, oo, kk, _, rfl, _⟩
            · exact .inl f5
            · refine .inr ?_; intro x hx; simp at hx; subst hx; rfl
          · rcases f5 with ⟨_, _, f5⟩ | ⟨bb, oo, kk, _, rfl, _⟩
            · exact fun _ => f5
            · simp
        · simp at he
      · simp at he
    · split at he
      · rename_i i hT
        split at he
        · rename_i c l' h' hb
          simp only [Option.some.injEq, Prod.mk.injEq] at he
          obtain ⟨rfl, rfl, rfl⟩ := he
          obtain ⟨a0, rfl⟩ : ∃ a0, va = .slice a0 0 0 := ha
          obtain ⟨m, hr', q1, q2, q3, q4, q5, q6⟩ := bnd_ok (C := C) true (Nat.le_refl 0) hlo hhi hmx hb w
          obtain rfl : h' = 0 := by omega
          obtain rfl : l' = 0 := by omega
          obtain rfl : m = 0 := by omega
          have hn : szB C.T e i.size = true := by simp [szB, hT]
          rw [run_slice_sl (und_ok hu) hn hr']
          exact hi.after0 ⟨_, rfl⟩
        · simp at he
      · simp at he
    · simp at he
  · simp at he

theorem andThen_ok_iff {α β : Type} {r : Result α} {f : α → World → Result β} {b : β} {w : World} (h : Result.andThen r f = .ok b w) : ∃ a w1, r = .ok a w1 ∧ f a w1 = .ok b w := by
  cases r <;> simp only [Result.andThen] at h <;> first | exact ⟨_, _, rfl, h⟩ | cases h

theorem bnd_zero {b : Bool} {n cap l h m : Nat} {lo hh : Option Value} {k : IntKind} (hr : (Instr.sliceBounds b n cap lo hh (some (.int k 0))).run C.P w = .ok (l, h, m) w) : m = 0 := by
  unfold Instr.sliceBounds at hr
  rw [Sem.run_bind] at hr
  obtain ⟨m1, w1, e1, e2⟩ := andThen_ok_iff hr
  have : m1 = 0 := by
    simp [Instr.sliceBound, asIntOf, Sem.run_bind] at e1
    exact e1.1.symm
  subst this
  cases hh with
  | none =>
    dsimp only at e2
    rw [Sem.run_bind] at e2
    obtain ⟨h1, w2, e3, _⟩ := andThen_ok_iff e2
    simp [stuck] at e3
  | some vh =>
    dsimp only at e2
    rw [Sem.run_bind] at e2
    obtain ⟨h1, w2, _, e3⟩ := andThen_ok_iff e2
    cases lo with
    | none => simp at e3; exact e3.1.2.2.symm
    | some vl =>
      dsimp only at e3
      rw [Sem.run_bind] at e3
      obtain ⟨l1, w3, _, e4⟩ := andThen_ok_iff e3
      simp at e4
      exact e4.1.2.2.symm

theorem opSlice0_ok (hi : Inv C I β F σ w tm) {t : TypeId} {a sv : SV} {lo hh mx : Option SV} {σ' : St} {va : Value} {vlo vhi : Option Value} {k : IntKind}
    (ha : SVR (hpOf w) C.L I β σ.r a va) (hlo : OptR (hpOf w) C.L I β σ.r lo vlo) (hhi : OptR (hpOf w) C.L I β σ.r hh vhi) (hmx : OptR (hpOf w) C.L I β σ.r mx (some (.int k 0)))
    (he : opSlice0 C.T t a lo hh mx σ = some (true, sv, σ')) : After0 C I β σ σ' w sv ((Instr.sliceAt t va vlo vhi (some (.int k 0))).run C.P w) := by
  unfold opSlice0 at he
  split at he
  · rename_i e' c sv0 σ0 hu0 he0
    simp only [Option.some.injEq, Prod.mk.injEq] at he
    obtain ⟨rfl, rfl, rfl⟩ := he
    have fin : ∀ {l' h' m : Nat} {A : Option Addr}, (Instr.sliceAt t va vlo vhi (some (.int k 0))).run C.P w = .ok (.slice A (h' - l') (m - l')) w → m = 0 → h' ≤ m → σ0 = σ → After0 C I β σ σ0 w .nl ((Instr.sliceAt t va vlo vhi (some (.int k 0))).run C.P w) := by
      intro l' h' m A h1 h2 h3 h4
      subst h4
      rw [h1]
      exact hi.after0 ⟨A, by rw [show h' - l' = 0 by omega, show m - l' = 0 by omega]⟩
    unfold opSlice at he0
    rw [hu0] at he0
    simp only at he0
    split at he0
    · rename_i l o u xs
      split at he0
      · rename_i hc
        simp only [Bool.and_eq_true] at hc
        split at he0
        · rename_i c l' h' hb
          simp only [Option.some.injEq, Prod.mk.injEq] at he0
          obtain ⟨rfl, rfl, rfl⟩ := he0
          obtain ⟨cs, hr, hv⟩ := ha
          obtain ⟨c1, rfl⟩ : ∃ c, cs = [c] := List.length_eq_one_iff.1 hr.len
          obtain rfl : va = c1 := hv
          obtain ⟨a, c, rfl, e2, e3, e4⟩ := sl_shape hr
          obtain ⟨m, hr', q1, q2, q3, q4, q5, q6⟩ := bnd_ok (C := C) true e2 hlo hhi hmx hb w
          exact fin (run_slice_sl (und_ok hu0) hc.1 hr') (bnd_zero hr') q3 rfl
        · simp at he0
      · simp at he0
    · rename_i r
      obtain ⟨l, u, xs, h1, rfl⟩ := ha
      rw [h1] at he0
      simp only at he0
      split at he0
      · rename_i hc
        simp only [Bool.and_eq_true] at hc
        split at he0
        · rename_i c l' h' hb
          simp only [Option.some.injEq, Prod.mk.injEq] at he0
          obtain ⟨rfl, rfl, rfl⟩ := he0
          obtain ⟨a, c, e1, e2, e3, e4⟩ := sl_shape (hi.roots r _ h1)
          obtain ⟨m, hr', q1, q2, q3, q4, q5, q6⟩ := bnd_ok (C := C) true e2 hlo hhi hmx hb w
          rw [e1] at fin ⊢
          exact fin (run_slice_sl (und_ok hu0) hc.1 hr') (bnd_zero hr') q3 rfl
        · simp at he0
      · simp at he0
    · rename_i r b n
      obtain ⟨l, u, xs, h1, h2, h3⟩ := ha
      rw [h1] at he0
      simp only at he0
      split at he0
      · rename_i hc
        simp only [Bool.and_eq_true] at hc
        split at he0
        · rename_i c l' h' hb
          simp only [Option.some.injEq, Prod.mk.injEq] at he0
          obtain ⟨rfl, rfl, rfl⟩ := he0
          obtain ⟨a0, m0, c0, a', c', f1, rfl, f3, f4, f5⟩ := h3
          obtain ⟨m, hr', q1, q2, q3, q4, q5, q6⟩ := bnd_ok (C := C) true f3 hlo hhi hmx hb w
          exact fin (run_slice_sl (und_ok hu0) hc.1 hr') (bnd_zero hr') q3 rfl
        · simp at he0
      · simp at he0
    · split at he0
      · rename_i i hT
        split at he0
        · rename_i c l' h' hb
          simp only [Option.some.injEq, Prod.mk.injEq] at he0
          obtain ⟨rfl, rfl, rfl⟩ := he0
          obtain ⟨a0, rfl⟩ : ∃ a0, va = .slice a0 0 0 := ha
          obtain ⟨m, hr', q1, q2, q3, q4, q5, q6⟩ := bnd_ok (C := C) true (Nat.le_refl 0) hlo hhi hmx hb w
          have hn : szB C.T e' i.size = true := by simp [szB, hT]
          exact fin (run_slice_sl (und_ok hu0) hn hr') (bnd_zero hr') q3 rfl
        · simp at he0
      · simp at he0
    · simp at he0
  · cases he

theorem seg_in (l c : List Value) (of k m : Nat) (h1 : k + c.length ≤ m) (h2 : of + m ≤ l.length) :
    List.take m (List.drop of (List.take (of + k) l ++ c ++ List.drop (of + k + c.length) l)) = List.take k (List.take m (List.drop of l)) ++ c ++ List.drop (k + c.length) (List.take m (List.drop of l)) := by
  apply List.ext_getElem?
  intro i
  simp only [List.getElem?_append, List.getElem?_take, List.getElem?_drop, List.length_take, List.length_drop, List.length_append]
  by_cases a1 : i < k
  · have b1 : i < m := by omega
    have b2 : of + i < min (of + k) l.length := by omega
    have b3 : i < min k (min m (l.length - of)) := by omega
    have b4 : of + i < of + k := by omega
    have b5 : of + i < min (of + k) l.length + c.length := by omega
    have b6 : i < min k (min m (l.length - of)) + c.length := by omega
    simp only [b1, b2, b3, b4, b5, b6, a1, if_true]
  · by_cases a2 : i < k + c.length
    · have b1 : i < m := by omega
      have b2 : ¬ of + i < min (of + k) l.length := by omega
      have b3 : ¬ i < min k (min m (l.length - of)) := by omega
      have b5 : of + i < min (of + k) l.length + c.length := by omega
      have b6 : i < min k (min m (l.length - of)) + c.length := by omega
      have e : of + i - min (of + k) l.length = i - min k (min m (l.length - of)) := by omega
      simp only [b1, b2, b3, b5, b6, if_true, if_false, e]
    · have b5 : ¬ of + i < min (of + k) l.length + c.length := by omega
      have b6 : ¬ i < min k (min m (l.length - of)) + c.length := by omega
      have e1 : of + k + c.length + (of + i - (min (of + k) l.length + c.length)) = of + i := by omega
      have e2 : k + c.length + (i - (min k (min m (l.length - of)) + c.length)) = i := by omega
      simp only [b5, b6, if_false, e1, e2]

/-- a part of a root is written -/
theorem root_set {h h' : Hp} {L I : Set'} {β : Value} {R R' : Root} {X : List Nat} {s : List Sel} {u : Ty} {y : den u} {c : List Value} (hs : R.set s u y = some R') (hf : u.flat = true) (hok : R.ok s)
    (hr : RootR h L I β R X) (hX : X.Nodup) (hX2 : ∀ b ∈ X, ¬ I b ∧ ¬ L b) (hy : Rep h (Sx L I R.len) true u y c []) {o b base : Nat} {arr arr' : Array Value} {E' : TypeId} {fr : Nat × Nat}
    (ho : R.off s = some (o, u)) (hb : h b = some (.cells arr E' fr)) (hp : ptrOf β 0 = .pointer (some ⟨b, base, none⟩))
    (hb' : h' b = some (.cells arr' E' fr)) (hsz : arr'.size = arr.size) (hl : arr'.toList = arr.toList.take (base + o) ++ c ++ arr.toList.drop (base + o + u.size)) (hk : ∀ k, k ≠ b → h' k = h k) :
    R.like R' ∧ RootR h' L I β R' X := by
  have hlift : ∀ {S : Set'}, (∀ k, S k → I k ∨ L k) → b ∈ X → ∀ k, S k → S k ∧ h' k = h k := by
    intro S hS hbX k hk'
    refine ⟨hk', hk k ?_⟩
    rintro rfl
    rcases hS k hk' with h | h
    · exact (hX2 k hbX).1 h
    · exact (hX2 k hbX).2 h
  have hSx : ∀ l k, Sx L I l k → I k ∨ L k := by
    rintro l k (h | ⟨_, h⟩)
    · exact .inl h
    · exact .inr h
  cases R with
  | box l t a =>
    simp only [Root.set] at hs
    cases hz : selSet s u y t a with
    | none => simp [hz] at hs
    | some z =>
      simp [hz] at hs
      subst hs
      obtain ⟨b1, ob, arr1, E1, fr1, X', e1, e2, e3, e4, e5⟩ := hr
      simp only [Bool.and_true, if_true, Bool.not_false] at e5
      obtain ⟨rfl, f2, rfl, f4⟩ := e5
      simp only [List.cons.injEq, and_true] at e1
      subst e1
      simp only [ptrOf, Value.pointer.injEq, Option.some.injEq, Addr.mk.injEq, and_true] at hp
      obtain ⟨rfl, rfl⟩ := hp
      rw [hb] at e2
      simp only [Option.some.injEq, Obj.cells.injEq] at e2
      obtain ⟨rfl, rfl, rfl⟩ := e2
      obtain ⟨o', h1, h2⟩ := selSet_rep (h := h) (S := Sx L I l) hz hf
      simp only [Root.off] at ho
      rw [ho] at h1
      simp only [Option.some.injEq, Prod.mk.injEq, and_true] at h1
      subst h1
      have hall : (arr.toList.drop 0).take t.size = arr.toList := by rw [List.drop_zero, List.take_of_length_le (by simp [f4])]
      have hall' : (arr'.toList.drop 0).take t.size = arr'.toList := by rw [List.drop_zero, List.take_of_length_le (by simp [hsz, f4])]
      rw [hall] at e4
      have h3 := h2 false arr.toList X' hok e4 c (by obtain ⟨_, r⟩ := Rep.flat hf hy; exact (rep_any hf r))
      refine ⟨by simp [Root.like], b1, 0, arr', E', fr, X', rfl, hb', by omega, ?_, ?_⟩
      · rw [hall', hl]
        simp only [Nat.add_zero, Nat.zero_add] at *
        exact Rep.keep (hlift (hSx l) (by simp)) (fun k hk' => hk k (by rintro rfl; exact (List.nodup_cons.1 hX).1 hk')) h3
      · rw [if_pos (by rfl)]
        exact ⟨rfl, by rw [hsz]; exact f2, rfl, by rw [hsz]; exact f4⟩
  | arr l t xs =>
    cases s with
    | nil => simp [Root.set] at hs
    | cons q s => cases q with
      | f i => simp [Root.set] at hs
      | i n =>
        simp only [Root.set] at hs
        cases hz : selSet s u y t (xs.getD n (dflt t)) with
        | none => rw [hz] at hs; simp at hs
        | some z =>
          rw [hz] at hs; simp at hs
          subst hs
          obtain ⟨hn, hok⟩ := hok
          obtain ⟨b1, of, c1, arr1, E1, fr1, X', rfl, g2, g3, g4, g5, g6⟩ := sl_block hr (by omega)
          simp only [Bool.and_true, if_true, Bool.not_false] at g6
          obtain ⟨rfl, g7⟩ := g6
          simp only [ptrOf, Value.pointer.injEq, Option.some.injEq, Addr.mk.injEq, and_true, Nat.add_zero] at hp
          obtain ⟨rfl, rfl⟩ := hp
          rw [hb] at g3
          simp only [Option.some.injEq, Obj.cells.injEq] at g3
          obtain ⟨rfl, rfl, rfl⟩ := g3
          obtain ⟨o', h1, h2⟩ := selSet_rep (h := h) (S := Sx L I l) hz hf
          simp only [Root.off, h1] at ho
          simp only [Option.some.injEq, Prod.mk.injEq, and_true] at ho
          subst ho
          have hc0 : c.length = u.size := hy.len
          have hle := selOff_le h1 hok
          have hm : n * t.size + t.size ≤ xs.length * t.size := by rw [← Nat.succ_mul]; exact Nat.mul_le_mul_right _ hn
          have hm2 : xs.length * t.size ≤ c1 * t.size := Nat.mul_le_mul_right _ g2
          have h3 := RL.set (fun _ _ _ => Rep.len) (dflt t) n z _ hn (fun Y hY => h2 false _ Y hok hY c (rep_any hf (Rep.flat hf hy).2)) g5
          rw [seg_seg _ c (n * t.size) t.size o' u.size hle (by rw [RL.len (fun _ _ _ => Rep.len) g5]; exact hm)] at h3
          refine ⟨by simp [Root.like], some ⟨b1, of, none⟩, c1, by simp, by simpa using g2, .inr ⟨b1, of, arr', E', fr, X', rfl, hb', by omega, ?_, ?_⟩⟩
          · have e : List.take ((List.set xs n z).length * t.size) (List.drop of arr'.toList) =
                List.take (n * t.size + o') (List.take (xs.length * t.size) (List.drop of arr.toList)) ++ c ++ List.drop (n * t.size + o' + u.size) (List.take (xs.length * t.size) (List.drop of arr.toList)) := by
              have hA : arr.toList.length = arr.size := by simp
              rw [hl, List.length_set, ← hc0]
              exact seg_in arr.toList c of (n * t.size + o') (xs.length * t.size) (by rw [hc0]; omega) (by rw [hA]; omega)
            rw [e]
            exact RL.mono_mem (fun x c Y _ hY hr => Rep.keep (hlift (hSx l) (by simp)) (fun k hk' => hk k (by rintro rfl; exact (List.nodup_cons.1 hX).1 (hY _ hk'))) hr) h3
          · rw [if_pos (by rfl)]
            exact ⟨rfl, by rw [hsz]; exact g7⟩

end

end Go.Proofs.Ytnffdeokhcojfaa.E

namespace Go.Proofs.Ytnffdeokhcojfaa.E
open Go
set_option linter.unusedSimpArgs false
set_option linter.unusedVariables false

section
variable {C : Ctx} {I : Set'} {β : Nat → Value} {F : Nat → List Nat} {σ : St} {w : World} {tm : Array Value}

theorem ptr_back {v : Value} {b base o : Nat} (h : ptrOf v o = .pointer (some ⟨b, base + o, none⟩)) : ptrOf v 0 = .pointer (some ⟨b, base, none⟩) := by
  unfold ptrOf at h ⊢
  split at h
  · simp at h ⊢; omega
  · simp at h ⊢; omega
  · simp [undef] at h

theorem opStore_ok (hi : Inv C I β F σ w tm) {t : TypeId} {a v sv : SV} {σ' : St} {va vv : Value}
    (ha : SVR (hpOf w) C.L I β σ.r a va) (hv : SVR (hpOf w) C.L I β σ.r v vv) (he : opStore C.T t a v σ = some (true, sv, σ')) :
    ∃ w' I', (Instr.storeAt t va vv).run C.P w = .ok () w' ∧ Inv C I' β F σ' w' tm ∧ sv = .x ∧ (∀ b, I b → I' b) ∧ w.heap.size ≤ w'.heap.size := by
  unfold opStore at he
  split at he
  · rename_i r s
    split at he
    rename_i v' σ1 hsh
    split at he
    · rename_i R hl
      obtain ⟨I', hi1, hv1, hI, hn1, hkeep⟩ := shared_ok hi hv hsh
      have ha1 := hkeep _ _ ha (by intro k hu; simp [SV.uses, SV.uses0] at hu; subst hu; rw [hl]; simp)
      obtain ⟨R', o, u, b, base, arr, E', fr, h1, h2, h3, h4, rfl, h5, h6, h7, h8, h9, h10⟩ := place hi1 ha1
      rw [hl] at h1
      obtain rfl := Option.some.inj h1
      split at he
      · rename_i l oo τ x hg
        split at he
        · rename_i hf
          simp only [Bool.and_eq_true] at hf
          split at he
          · rename_i y hy
            split at he
            · rename_i R2 hset
              simp only [Option.some.injEq, Prod.mk.injEq, true_and] at he
              obtain ⟨rfl, rfl⟩ := he
              obtain ⟨q1, q2, q3⟩ := h10 l _ hg
              simp only at q1 q2
              subst q1; subst q2
              obtain ⟨cs, hr, rfl⟩ := toV_ok hy hv1
              have hlen := hr.len
              have hone := hr.one
              have hcells := wrapV_cells hlen hone
              obtain ⟨w', arr', g1, g2, g3, g4, g5, g6, g7⟩ := run_store_cells (C := C) (b := b) (o := base + oo) (E := E') (fr := fr) cs 0 arr w h5 h6 (by rw [hlen]; exact h8) hone
              have hfit : szB C.T t τ.size = true := by have := hf.1; simp only [fits, Bool.and_eq_true] at this; exact this.1
              refine ⟨w', I', ?_, ?_, rfl, hI, by omega⟩
              · have hsz : (wrapV τ cs).cells.size = τ.size := by rw [← hlen, ← Array.length_toList, hcells]
                simp only [Instr.storeAt, Instr.sureAddr, Sem.run_bind, Sem.run_pure, Result.andThen_ok, storeVar, run_size hfit, hsz, ne_eq, not_true_eq_false, if_false, hcells]
                exact g1
              · have hrs := root_set (h' := hpOf w') hset hf.2 h3 (hi1.roots r _ hl) (hi1.nodup r _ hl) (fun k hk => hi1.away hl k hk) (by rw [← q3]; exact hr) h2 h5
                  (by
                    obtain ⟨R3, o3, u3, e1, e2, e3, e4⟩ := ha1
                    rw [hl] at e1
                    obtain rfl := Option.some.inj e1
                    rw [h2] at e2
                    simp only [Option.some.injEq, Prod.mk.injEq] at e2
                    obtain ⟨rfl, rfl⟩ := e2
                    exact ptr_back e4.symm) g2 g3 (by rw [g4, hlen]; simp) g5
                exact hi1.write hl hrs.1 g6 g7 (fun k _ hk => g5 k (by rintro rfl; exact hk h7)) hrs.2
            · simp at he
          · simp at he
        · simp at he
      · simp at he
    · simp at he
  · simp at he

theorem new_after (hi : Inv C I β F σ w tm) {d : Nat} {R : Root} {v : Value} {cells : Array Value} {E' : TypeId} {fr : Nat × Nat} {w' : World}
    (h1 : hpOf w' w.heap.size = some (.cells cells E' fr)) (h2 : ∀ k, k < w.heap.size → hpOf w' k = hpOf w k) (h3 : w'.heap.size = w.heap.size + 1) (hz : restOf w' = restOf w)
    (hR : RootR (hpOf w') C.L I v R [w.heap.size]) : Inv C I (updF β d v) (updF F d [w.heap.size]) (σ.new d R) w' tm := by
  refine hi.new d R v [w.heap.size] (by omega) hz (fun b hb _ => h2 b hb) hR (by simp) ?_ ?_
  · intro b hb
    simp at hb
    subst hb
    have hg := hi.grow
    refine ⟨fun h => ?_, fun h => ?_, by omega, .inr hg⟩
    · have := (hi.shared _ h).1; omega
    · have := (C.Lok _ h).1; omega
  · intro k R' hne hl b hb hm
    simp at hm
    subst hm
    have := (hi.own k R' hl _ hb).2.2.1
    omega

theorem box_after (hi : Inv C I β F σ w tm) {d : Nat} {l : Bool} {τ : Ty} {x : den τ} {cs : List Value} {E' : TypeId} (hf : τ.flat = true) (hr : Rep (hpOf w) (Sx C.L I l) true τ x cs []) :
    Inv C I (updF β d (.pointer (some ⟨w.heap.size, 0, none⟩))) (updF F d [w.heap.size]) (σ.new d (.box l τ x)) (w.alloc (.cells cs.toArray E')) tm ∧
      SVR (hpOf (w.alloc (.cells cs.toArray E'))) C.L I (updF β d (.pointer (some ⟨w.heap.size, 0, none⟩))) (σ.new d (.box l τ x)).r (.p d []) (.pointer (some ⟨w.heap.size, 0, none⟩)) := by
  obtain ⟨h1, h2, h3⟩ := hp_alloc (w := w) (.cells cs.toArray E')
  have hlen := hr.len
  constructor
  · refine new_after hi h1 h2 h3 rfl ?_
    refine ⟨w.heap.size, 0, cs.toArray, E', (0, 0), [], rfl, h1, by simp [hlen], ?_, ?_⟩
    · have : List.take τ.size (List.drop 0 cs.toArray.toList) = cs := by simp [← hlen]
      rw [this]
      refine rep_any hf (Rep.keep (fun b hb => ⟨hb, h2 b ?_⟩) (fun _ hb => by simp at hb) hr)
      rcases hb with hb | ⟨_, hb⟩
      · exact (hi.shared b hb).1
      · exact Nat.lt_of_lt_of_le (C.Lok b hb).1 hi.grow
    · rw [if_pos (by rfl)]
      exact ⟨rfl, .inl rfl, rfl, by simp [hlen]⟩
  · exact ⟨.box l τ x, 0, τ, look_cons_same, rfl, trivial, by rw [updF_same]; rfl⟩

theorem arr_after (hi : Inv C I β F σ w tm) {w' : World} {d : Nat} {l : Bool} {u : Ty} {xs : List (den u)} {cs : List Value} {E' : TypeId} {arr : Array Value} {fr : Nat × Nat} {cap : Nat} (hf : u.flat = true)
    (h1 : hpOf w' w.heap.size = some (.cells arr E' fr)) (h2 : ∀ k, k < w.heap.size → hpOf w' k = hpOf w k) (h3 : w'.heap.size = w.heap.size + 1) (hz : restOf w' = restOf w)
    (hr : RL (Rep (hpOf w) (Sx C.L I l) true u) xs cs []) (hcap : xs.length ≤ cap) (hsz : cap * u.size ≤ arr.size) (hc : calm arr.size fr) (htake : arr.toList.take (xs.length * u.size) = cs) :
    Inv C I (updF β d (.slice (some ⟨w.heap.size, 0, none⟩) xs.length cap)) (updF F d [w.heap.size]) (σ.new d (.arr l u xs)) w' tm ∧
      SVR (hpOf w') C.L I (updF β d (.slice (some ⟨w.heap.size, 0, none⟩) xs.length cap)) (σ.new d (.arr l u xs)).r (.sf d) (.slice (some ⟨w.heap.size, 0, none⟩) xs.length cap) := by
  constructor
  · refine new_after hi h1 h2 h3 hz ?_
    refine ⟨some ⟨w.heap.size, 0, none⟩, cap, rfl, hcap, .inr ⟨w.heap.size, 0, arr, E', fr, [], rfl, h1, by omega, ?_, ?_⟩⟩
    · rw [List.drop_zero, htake]
      exact RL.mono_mem (fun x c Y _ hY hr => by
        have : Y = [] := by cases Y with | nil => rfl | cons b Y => exact absurd (hY b (by simp)) (by simp)
        subst this
        refine rep_any hf (Rep.keep (fun b hb => ⟨hb, h2 b ?_⟩) (fun _ hb => by simp at hb) hr)
        rcases hb with hb | ⟨_, hb⟩
        · exact (hi.shared b hb).1
        · exact Nat.lt_of_lt_of_le (C.Lok b hb).1 hi.grow) hr
    · rw [if_pos (by rfl)]
      exact ⟨rfl, hc⟩
  · exact ⟨l, u, xs, look_cons_same, by rw [updF_same]⟩

theorem opAlloc_ok (hi : Inv C I β F σ w tm) {dst : Option Nat} {t : TypeId} {τ : Ty} {sv : SV} {σ' : St} (he : opAlloc C.T dst t τ σ = some (true, sv, σ')) :
    After C I σ' w tm sv ((Instr.alloc t true (.tuple #[])).run C.P w) := by
  unfold opAlloc at he
  split at he
  · rename_i d
    split at he
    · rename_i hz
      simp only [Bool.and_eq_true] at hz
      simp only [Option.some.injEq, Prod.mk.injEq, true_and] at he
      obtain ⟨rfl, rfl⟩ := he
      obtain ⟨hzo, j, z, e1, e2, e3⟩ := zero_ok hz.1
      have hcells : z.cells = (zeroC τ).toArray := by rw [← e3]
      have hrun : (Instr.alloc t true (.tuple #[])).run C.P w = .ok (.pointer (some ⟨w.heap.size, 0, none⟩)) (w.alloc (.cells (zeroC τ).toArray t)) := by
        simp [Instr.alloc, zeroValue, typeInfo, e1, e2, newVar, newRow, hcells]
      obtain ⟨a, b⟩ := box_after (d := d) (l := false) (E' := t) hi hz.2 (Rep.dflt hzo true)
      exact ⟨_, _, I, _, _, hrun, a, b, fun _ h => h, by simp⟩
    · simp at he
  · simp at he

theorem opBox_ok (hi : Inv C I β F σ w tm) {dst : Option Nat} {t : TypeId} {a sv : SV} {σ' : St} {va : Value} (ha : SVR (hpOf w) C.L I β σ.r a va) (he : opBox dst a σ = some (true, sv, σ')) :
    After C I σ' w tm sv ((Instr.box t va).run C.P w) := by
  unfold opBox at he
  split at he
  · rename_i d l τ x σ1 hsh
    split at he
    · rename_i hf
      simp only [Option.some.injEq, Prod.mk.injEq, true_and] at he
      obtain ⟨rfl, rfl⟩ := he
      obtain ⟨I', hi1, ⟨cs, hr, rfl⟩, hI, _⟩ := shared_ok hi ha hsh
      have hcells := wrapV_cells hr.len hr.one
      have hcells' : (wrapV τ cs).cells = cs.toArray := by apply Array.toList_inj.1; rw [hcells]
      have hrun : (Instr.box t (wrapV τ cs)).run C.P w = .ok (.pointer (some ⟨w.heap.size, 0, none⟩)) (w.alloc (.cells cs.toArray t)) := by
        simp [Instr.box, newVar, newRow, hcells']
      obtain ⟨a, b⟩ := box_after (d := d) (E' := t) hi1 hf hr
      exact ⟨_, _, I', _, _, hrun, a, b, hI, by simp⟩
    · simp at he
  · simp at he

theorem made_flat (z : Array Value) : ∀ c : Nat, (madeCells z (c * z.size)).toList = (List.replicate c z.toList).flatten := by
  intro c
  induction c with
  | zero => simp [madeCells]
  | succ c ih =>
    have e0 : (c + 1) * z.size = c * z.size + z.size := Nat.succ_mul c z.size
    rw [List.replicate_succ', List.flatten_append, ← ih]
    simp only [madeCells, Array.toList_map, Array.toList_range, e0, List.range_add, List.map_append, List.map_map, List.flatten_cons, List.flatten_nil, List.append_nil]
    congr 1
    apply List.ext_getElem?
    intro i
    simp only [List.getElem?_map, List.getElem?_range]
    by_cases h : i < z.size
    · have : (c * z.size + i) % z.size = i := by rw [Nat.mul_comm, Nat.mul_add_mod]; exact Nat.mod_eq_of_lt h
      simp [h, this]
    · simp [h]

theorem opMake_ok (hi : Inv C I β F σ w tm) {dst : Option Nat} {t : TypeId} {u : Ty} {n c sv : SV} {σ' : St} {vn vc : Value} (hn : SVR (hpOf w) C.L I β σ.r n vn) (hc : SVR (hpOf w) C.L I β σ.r c vc)
    (he : opMake C.T dst t u n c σ = some (true, sv, σ')) : After C I σ' w tm sv ((Instr.makeSlice t vn vc).run C.P w) := by
  unfold opMake at he
  split at he
  · rename_i d e ln kn n lc kc c hu
    change Int at n
    change Int at c
    obtain rfl := of_int hn
    obtain rfl := of_int hc
    split at he
    · rename_i hz
      simp only [Bool.and_eq_true, Bool.not_eq_true'] at hz
      simp only [Option.some.injEq, Prod.mk.injEq, makeB_iff] at he
      obtain ⟨⟨h0, h1, h2⟩, rfl, rfl⟩ := he
      obtain ⟨hzo, j, z, e1, e2, e3⟩ := zero_ok hz.1.1.2
      have hcells : z.cells.toList = zeroC u := e3
      have hb : bytesB C.T e = j.bytes ∧ j.size = u.size := by
        obtain ⟨j', f1, f2⟩ := sz_ok hz.1.1.1.1
        rw [e1] at f1
        obtain rfl := Option.some.inj f1
        refine ⟨?_, f2⟩
        unfold bytesB
        have := hz.1.1.1.1
        unfold szB at this
        cases hT : C.T e with
        | none => simp [hT] at this
        | some i =>
          obtain ⟨j2, z2, g1, g2, g3, _⟩ := (C.ok e i hT).2
          rw [e1] at g1
          obtain rfl := Option.some.inj g1
          exact g3.symm
      obtain ⟨hb, hsz⟩ := hb
      have hb1 : 1 ≤ j.bytes := by rw [← hb]; exact Nat.le_of_ble_eq_true hz.2
      rw [hb] at h2
      have hc2 : c ≤ c * (j.bytes : Int) := by
        have : c * 1 ≤ c * (j.bytes : Int) := Int.mul_le_mul_of_nonneg_left (by omega) (by omega)
        simpa using this
      have hrun := run_make (P := C.P) w t e j z (und_ok hu) e1 e2 kn kc n c h0 h1 (by rw [Int.mul_comm]; omega) (by omega)
      rw [hrun]
      have hzs : z.cells.size = u.size := by rw [← Array.length_toList, hcells]; exact (Rep.dflt (h := hpOf w) (S := Sx C.L I false) hzo true).len
      obtain ⟨a1, a2, a3⟩ := hp_alloc (w := w) (.cells (madeCells z.cells (c.toNat * j.size)) e)
      have hlen : (List.replicate n.toNat (dflt u)).length = n.toNat := by simp
      have hnc : n.toNat ≤ c.toNat := by omega
      have hle : n.toNat * u.size ≤ c.toNat * u.size := Nat.mul_le_mul_right _ hnc
      have hR := RL.replicate (Rep.dflt (h := hpOf w) (S := Sx C.L I false) hzo true) n.toNat
      obtain ⟨b1, b2⟩ := arr_after (d := d) (l := false) (u := u) (cap := c.toNat) hi hz.1.2 a1 a2 a3 rfl hR (by rw [hlen]; exact hnc) (by simp [madeCells, hsz]) (.inl rfl) (by
        rw [hlen, hsz, ← hzs, made_flat, hcells]
        have : c.toNat = n.toNat + (c.toNat - n.toNat) := by omega
        rw [this, ← List.replicate_append_replicate, List.flatten_append, List.take_append_of_le_length]
        · rw [List.take_of_length_le]
          simp [hzs, (Rep.dflt (h := hpOf w) (S := Sx C.L I false) hzo true).len]
        · simp [hzs, (Rep.dflt (h := hpOf w) (S := Sx C.L I false) hzo true).len])
      rw [hlen] at b1 b2
      exact ⟨_, _, I, _, _, rfl, b1, b2, fun _ h => h, by simp⟩
    · simp at he
  · simp at he

end

end Go.Proofs.Ytnffdeokhcojfaa.E
