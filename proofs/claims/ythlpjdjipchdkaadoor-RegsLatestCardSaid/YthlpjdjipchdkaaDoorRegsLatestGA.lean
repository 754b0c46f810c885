/- A plain evaluator of the program's form on data by value, and the proof that it is sound. No condition. -/
import Derived.Calls
import Derived.Laws.AppendOwn
import Derived.Laws.Strings
import Derived.Laws.StructEq
import Derived.Laws.MakeOwn
import Derived.Laws.BytesArg
import Derived.Lib.ConvBytes
import Derived.Laws.Tables
import Derived.Laws.NewFold
import Derived.WideKeyRuns
import Derived.MapKept
import Derived.Orders
import Derived.ProofKit
import Derived.SizedLaws
import Derived.Lib.AppendZerosOnto
import Derived.Lib.Overlaps
import Derived.Laws.Externs
import Derived.Laws.IdiomCopy
import Derived.Deep.AppendSrc
import Derived.Shelf.RegionOpenPlain
import Derived.WalkKit
import Derived.Lib.Walk
import Derived.Lib.SliceRun
import Derived.Lib.JoinLaws
import Derived.Lib.Bytealg

namespace Go.Proofs.YthlpjdjipchdkaaDoor.E
open Go
set_option linter.unusedSimpArgs false
set_option linter.unusedVariables false
inductive Ty
  | int (k : IntKind) | bool | str | unit
  | pair (a b : Ty)
  | arr (n : Nat) (t : Ty)
  | sl (own : Bool) (t : Ty)
  | ptr (own : Bool) (t : Ty)
  | ref (own : Bool) (t : Ty)
  | map (own : Bool) (k v : Ty)
  | hole (k : Nat)
  | raw (g : Bool) (n : Nat)
  | nils
  | nilp
def kindNo : IntKind → Nat
  | .i8 => 0 | .i16 => 1 | .i32 => 2 | .i64 => 3 | .u8 => 4 | .u16 => 5 | .u32 => 6 | .u64 => 7
def kindEq (j k : IntKind) : Bool := Nat.beq (kindNo j) (kindNo k)
theorem kindEq_iff {j k : IntKind} (h : kindEq j k = true) : j = k := by
  cases j <;> cases k <;> first | rfl | (simp [kindEq, kindNo] at h)
def boolEq : Bool → Bool → Bool
  | true, b => b
  | false, true => false
  | false, false => true
def tyEq : Ty → Ty → Bool
  | .int k, .int j => kindEq k j
  | .bool, .bool => true
  | .str, .str => true
  | .unit, .unit => true
  | .pair a b, .pair c d => tyEq a c && tyEq b d
  | .arr n t, .arr m u => Nat.beq n m && tyEq t u
  | .sl o t, .sl p u => boolEq o p && tyEq t u
  | .ptr o t, .ptr p u => boolEq o p && tyEq t u
  | .ref o t, .ref p u => boolEq o p && tyEq t u
  | .map o k v, .map p l w => boolEq o p && tyEq k l && tyEq v w
  | .hole k, .hole j => Nat.beq k j
  | .raw g n, .raw f m => boolEq g f && Nat.beq n m
  | .nils, .nils => true
  | .nilp, .nilp => true
  | _, _ => false
theorem boolEq_iff {a b : Bool} (h : boolEq a b = true) : a = b := by cases a <;> cases b <;> first | rfl | cases h
theorem tyEq_iff : ∀ {t u : Ty}, tyEq t u = true → t = u := by
  intro t
  induction t with
  | int k => intro u h; cases u <;> first | (simp [tyEq] at h; done) | (simp only [tyEq] at h; rw [kindEq_iff h])
  | bool => intro u h; cases u <;> first | rfl | (simp [tyEq] at h; done)
  | str => intro u h; cases u <;> first | rfl | (simp [tyEq] at h; done)
  | unit => intro u h; cases u <;> first | rfl | (simp [tyEq] at h; done)
  | pair a b iha ihb => intro u h; cases u <;> first | (simp [tyEq] at h; done) | (simp only [tyEq, Bool.and_eq_true] at h; rw [iha h.1, ihb h.2])
  | arr n t ih => intro u h; cases u <;> first | (simp [tyEq] at h; done) | (simp only [tyEq, Bool.and_eq_true] at h; rw [Nat.eq_of_beq_eq_true h.1, ih h.2])
  | sl o t ih => intro u h; cases u <;> first | (simp [tyEq] at h; done) | (simp only [tyEq, Bool.and_eq_true] at h; rw [boolEq_iff h.1, ih h.2])
  | ptr o t ih => intro u h; cases u <;> first | (simp [tyEq] at h; done) | (simp only [tyEq, Bool.and_eq_true] at h; rw [boolEq_iff h.1, ih h.2])
  | ref o t ih => intro u h; cases u <;> first | (simp [tyEq] at h; done) | (simp only [tyEq, Bool.and_eq_true] at h; rw [boolEq_iff h.1, ih h.2])
  | map o k v ihk ihv => intro u h; cases u <;> first | (simp [tyEq] at h; done) | (simp only [tyEq, Bool.and_eq_true] at h; rw [boolEq_iff h.1.1, ihk h.1.2, ihv h.2])
  | hole k => intro u h; cases u <;> first | (simp [tyEq] at h; done) | (simp only [tyEq] at h; rw [Nat.eq_of_beq_eq_true h])
  | nils => intro u h; cases u <;> first | rfl | (simp [tyEq] at h; done)
  | nilp => intro u h; cases u <;> first | rfl | (simp [tyEq] at h; done)
  | raw g n => intro u h; cases u <;> first | (simp [tyEq] at h; done) | (simp only [tyEq, Bool.and_eq_true] at h; rw [boolEq_iff h.1, Nat.eq_of_beq_eq_true h.2])
@[reducible] def den : Ty → Type
  | .int _ => Int
  | .bool => Bool
  | .str => List UInt8
  | .unit => Unit
  | .pair a b => den a × den b
  | .arr _ t => List (den t)
  | .sl _ t => List (den t)
  | .ptr _ t => Option (den t)
  | .ref _ t => den t
  | .map _ k v => List (den k × den v)
  | .hole _ => Unit
  | .raw _ _ => List Value
  | .nils => Unit
  | .nilp => Unit
def Ty.size : Ty → Nat
  | .unit => 0
  | .pair a b => a.size + b.size
  | .arr n t => n * t.size
  | .raw _ n => n
  | _ => 1
def Ty.isAgg : Ty → Bool
  | .unit | .pair .. | .arr .. => true
  | .raw g _ => g
  | _ => false
def Ty.plain : Ty → Bool
  | .int _ | .bool | .str | .unit => true
  | .pair a b => a.plain && b.plain
  | .arr _ t => t.plain
  | .raw _ _ => true
  | .nils => true
  | .nilp => true
  | _ => false
def Ty.flat : Ty → Bool
  | .int _ | .bool | .str | .unit => true
  | .pair a b => a.flat && b.flat
  | .arr _ t => t.flat
  | .sl o _ => !o
  | .ptr o _ => !o
  | .ref o _ => !o
  | .map o _ _ => !o
  | .hole _ => false
  | .raw _ _ => true
  | .nils => true
  | .nilp => true
def dflt : (t : Ty) → den t
  | .int _ => (0 : Int)
  | .bool => false
  | .str => ([] : List UInt8)
  | .unit => ()
  | .pair a b => (dflt a, dflt b)
  | .arr n t => List.replicate n (dflt t)
  | .sl _ t => ([] : List (den t))
  | .ptr _ t => (none : Option (den t))
  | .ref _ t => dflt t
  | .map _ k v => ([] : List (den k × den v))
  | .hole _ => ()
  | .raw _ n => (List.replicate n undef : List Value)
  | .nils => ()
  | .nilp => ()
abbrev Hp := Nat → Option Obj
abbrev Set' := Nat → Prop
def RL {α : Type} (R : α → List Value → List Nat → Prop) : List α → List Value → List Nat → Prop
  | [], cs, X => cs = [] ∧ X = []
  | x :: xs, cs, X => ∃ c1 c2 X1 X2, cs = c1 ++ c2 ∧ X = X1 ++ X2 ∧ R x c1 X1 ∧ RL R xs c2 X2
def RM {α β : Type} (K : α → List Value → List Nat → Prop) (V : β → List Value → List Nat → Prop) (wk wv : List Value → Value) :
    List (α × β) → List MapEntry → List Nat → Prop
  | [], es, X => es = [] ∧ X = []
  | x :: xs, es, X => ∃ e r ck cv X1 X2, es = e :: r ∧ X = X1 ++ X2 ∧ e.key = wk ck ∧ e.val = wv cv ∧ K x.1 ck [] ∧ V x.2 cv X1 ∧ RM K V wk wv xs r X2
def wrapV (t : Ty) (cs : List Value) : Value := if t.isAgg then .agg cs.toArray else cs.headD undef
def Born (es : Array MapEntry) (clock : Nat) : Prop := (es.toList.map (·.born)).Nodup ∧ ∀ e ∈ es.toList, e.born < clock
def calm (n : Nat) (fr : Nat × Nat) : Prop := fr = (0, 0) ∨ n ≤ fr.1
def u8T : Ty → Bool
  | .int k => Nat.beq (kindNo k) 4
  | _ => false
def calmS (t : Ty) (n : Nat) (fr : Nat × Nat) : Prop := fr = (0, 0) ∨ (u8T t = true ∧ n ≤ fr.1)
theorem calm_of {t : Ty} {n : Nat} {fr : Nat × Nat} (h : calmS t n fr) : calm n fr := h.imp id And.right
theorem calmS_of {t : Ty} {n : Nat} {fr : Nat × Nat} (ht : u8T t = true) (h : calm n fr) : calmS t n fr := h.imp id fun h => ⟨ht, h⟩
def Rep (h : Hp) (S : Set') (len : Bool) : (t : Ty) → den t → List Value → List Nat → Prop
  | .int k, n, cs, X => cs = [.int k n] ∧ X = []
  | .bool, b, cs, X => cs = [.bool b] ∧ X = []
  | .str, s, cs, X => cs = [.string ⟨⟨s⟩⟩] ∧ X = []
  | .unit, _, cs, X => cs = [] ∧ X = []
  | .pair a b, x, cs, X => ∃ c1 c2 X1 X2, cs = c1 ++ c2 ∧ X = X1 ++ X2 ∧ Rep h S len a x.1 c1 X1 ∧ Rep h S len b x.2 c2 X2
  | .arr n t, xs, cs, X => xs.length = n ∧ RL (Rep h S len t) xs cs X
  | .sl own t, xs, cs, X => ∃ a c, cs = [.slice a xs.length c] ∧ xs.length ≤ c ∧
      ((xs = [] ∧ a = a ∧ c = 0 ∧ X = []) ∨
       ∃ b o arr E fr X', a = some ⟨b, o, none⟩ ∧ h b = some (.cells arr E fr) ∧ o + c * t.size ≤ arr.size ∧
         RL (Rep h S (len || !own) t) xs ((arr.toList.drop o).take (xs.length * t.size)) X' ∧
         if own && !len then X = b :: X' ∧ calmS t arr.size fr else S b ∧ X = [] ∧ X' = [])
  | .ptr own t, x, cs, X => match x with
    | none => cs = [.pointer none] ∧ X = []
    | some y => ∃ b o arr E fr X', cs = [.pointer (some ⟨b, o, none⟩)] ∧ h b = some (.cells arr E fr) ∧ o + t.size ≤ arr.size ∧ Rep h S (len || !own) t y ((arr.toList.drop o).take t.size) X' ∧
         if own && !len then X = b :: X' ∧ calm arr.size fr ∧ o = 0 ∧ arr.size = t.size else S b ∧ X = [] ∧ X' = []
  | .ref own t, y, cs, X => ∃ b o arr E fr X', cs = [.pointer (some ⟨b, o, none⟩)] ∧ h b = some (.cells arr E fr) ∧ o + t.size ≤ arr.size ∧ Rep h S (len || !own) t y ((arr.toList.drop o).take t.size) X' ∧
         if own && !len then X = b :: X' ∧ calm arr.size fr ∧ o = 0 ∧ arr.size = t.size else S b ∧ X = [] ∧ X' = []
  | .map own k v, es, cs, X => ∃ b ents clock X', cs = [.map (some b)] ∧ h b = some (.map ents clock) ∧ Born ents clock ∧
      RM (Rep h S (len || !own) k) (Rep h S (len || !own) v) (wrapV k) (wrapV v) es ents.toList X' ∧
         if own && !len then X = b :: X' else S b ∧ X = [] ∧ X' = []
  | .hole _, _, cs, X => (∃ v : Value, cs = [v] ∧ v.oneCell' = true) ∧ X = []
  | .raw g n, x, cs, X => cs = x ∧ x.length = n ∧ (∀ v ∈ x, v.oneCell' = true) ∧ (g = false → n = 1) ∧ X = []
  | .nils, _, cs, X => (∃ a, cs = [.slice a 0 0]) ∧ X = []
  | .nilp, _, cs, X => cs = [.pointer none] ∧ X = []
theorem RL.mono {α : Type} {R R' : α → List Value → List Nat → Prop} (hr : ∀ x c X, R x c X → R' x c X) :
    ∀ {xs : List α} {cs X}, RL R xs cs X → RL R' xs cs X
  | [], _, _, h => h
  | _ :: _, _, _, ⟨c1, c2, X1, X2, h1, h2, h3, h4⟩ => ⟨c1, c2, X1, X2, h1, h2, hr _ _ _ h3, RL.mono hr h4⟩
theorem RL.mono_mem {α : Type} {R R' : α → List Value → List Nat → Prop} :
    ∀ {xs : List α} {cs X}, (∀ x c Y, x ∈ xs → (∀ b ∈ Y, b ∈ X) → R x c Y → R' x c Y) → RL R xs cs X → RL R' xs cs X
  | [], _, _, _, h => h
  | _ :: _, _, _, hr, ⟨c1, c2, X1, X2, h1, h2, h3, h4⟩ =>
    ⟨c1, c2, X1, X2, h1, h2, hr _ _ _ (by simp) (by subst h2; intro b hb; simp [hb]) h3,
      RL.mono_mem (fun x c Y hx hY => hr x c Y (by simp [hx]) (by subst h2; intro b hb; have := hY b hb; simp [this])) h4⟩
theorem RL.len {α : Type} {R : α → List Value → List Nat → Prop} {s : Nat} (hr : ∀ x c X, R x c X → c.length = s) :
    ∀ {xs : List α} {cs X}, RL R xs cs X → cs.length = xs.length * s
  | [], _, _, ⟨h, _⟩ => by simp [h]
  | _ :: xs, _, _, ⟨c1, c2, X1, X2, h1, _, h3, h4⟩ => by
    rw [h1, List.length_append, hr _ _ _ h3, RL.len hr h4]; simp [Nat.add_mul]; omega
theorem RL.noX {α : Type} {R : α → List Value → List Nat → Prop} (hr : ∀ x c X, R x c X → X = []) :
    ∀ {xs : List α} {cs X}, RL R xs cs X → X = []
  | [], _, _, ⟨_, h⟩ => h
  | _ :: _, _, _, ⟨_, _, _, _, _, h2, h3, h4⟩ => by rw [h2, hr _ _ _ h3, RL.noX hr h4]; rfl
theorem RL.append {α : Type} {R : α → List Value → List Nat → Prop} :
    ∀ {xs ys : List α} {c d X Y}, RL R xs c X → RL R ys d Y → RL R (xs ++ ys) (c ++ d) (X ++ Y)
  | [], _, _, _, _, _, ⟨h1, h2⟩, hd => by subst h1; subst h2; simpa using hd
  | _ :: _, _, _, _, _, _, ⟨c1, c2, X1, X2, h1, h2, h3, h4⟩, hd =>
    ⟨c1, c2 ++ _, X1, X2 ++ _, by rw [h1, List.append_assoc], by rw [h2, List.append_assoc], h3, RL.append h4 hd⟩
theorem RL.split {α : Type} {R : α → List Value → List Nat → Prop} :
    ∀ {xs ys : List α} {c X}, RL R (xs ++ ys) c X → ∃ c1 c2 X1 X2, c = c1 ++ c2 ∧ X = X1 ++ X2 ∧ RL R xs c1 X1 ∧ RL R ys c2 X2
  | [], _, c, X, h => ⟨[], c, [], X, rfl, rfl, ⟨rfl, rfl⟩, h⟩
  | x :: xs, ys, c, X, ⟨c1, c2, X1, X2, h1, h2, h3, h4⟩ => by
    obtain ⟨d1, d2, Y1, Y2, e1, e2, e3, e4⟩ := RL.split h4
    exact ⟨c1 ++ d1, d2, X1 ++ Y1, Y2, by rw [h1, e1, List.append_assoc], by rw [h2, e2, List.append_assoc], ⟨c1, d1, X1, Y1, rfl, rfl, h3, e3⟩, e4⟩
theorem RM.mono_mem {α β : Type} {K K' : α → List Value → List Nat → Prop} {V V' : β → List Value → List Nat → Prop} {wk wv : List Value → Value} :
    ∀ {xs : List (α × β)} {es X}, (∀ x c, K x c [] → K' x c []) → (∀ x c Y, (∀ b ∈ Y, b ∈ X) → V x c Y → V' x c Y) → RM K V wk wv xs es X → RM K' V' wk wv xs es X
  | [], _, _, _, _, h => h
  | _ :: _, _, _, hk, hv, ⟨e, r, ck, cv, X1, X2, h1, h2, h3, h4, h5, h6, h7⟩ =>
    ⟨e, r, ck, cv, X1, X2, h1, h2, h3, h4, hk _ _ h5, hv _ _ _ (by subst h2; intro b hb; simp [hb]) h6,
      RM.mono_mem hk (fun x c Y hY => hv x c Y (by subst h2; intro b hb; have := hY b hb; simp [this])) h7⟩
theorem RM.noX {α β : Type} {K : α → List Value → List Nat → Prop} {V : β → List Value → List Nat → Prop} {wk wv : List Value → Value} (hr : ∀ x c X, V x c X → X = []) :
    ∀ {xs : List (α × β)} {es X}, RM K V wk wv xs es X → X = []
  | [], _, _, ⟨_, h⟩ => h
  | _ :: _, _, _, ⟨_, _, _, _, _, _, _, h2, _, _, _, h3, h4⟩ => by rw [h2, hr _ _ _ h3, RM.noX hr h4]; rfl
theorem Rep.len {h : Hp} {S : Set'} {l : Bool} : ∀ {t : Ty} {x : den t} {cs X}, Rep h S l t x cs X → cs.length = t.size
  | .int _, _, _, _, hr | .bool, _, _, _, hr | .str, _, _, _, hr => by rw [hr.1]; rfl
  | .unit, _, _, _, hr => by rw [hr.1]; rfl
  | .pair _ _, _, _, _, ⟨_, _, _, _, h1, _, h3, h4⟩ => by rw [h1, List.length_append, Rep.len h3, Rep.len h4]; rfl
  | .arr _ _, _, _, _, ⟨h1, h2⟩ => by rw [RL.len (fun _ _ _ => Rep.len) h2, h1]; rfl
  | .sl _ _, _, _, _, ⟨_, _, h1, _⟩ => by rw [h1]; rfl
  | .ptr _ _, none, _, _, hr => by rw [hr.1]; rfl
  | .ptr _ _, some _, _, _, ⟨_, _, _, _, _, _, h1, _⟩ => by rw [h1]; rfl
  | .ref _ _, _, _, _, ⟨_, _, _, _, _, _, h1, _⟩ => by rw [h1]; rfl
  | .map _ _ _, _, _, _, ⟨_, _, _, _, h1, _⟩ => by rw [h1]; rfl
  | .hole _, _, _, _, ⟨⟨_, h, _⟩, _⟩ => by rw [h]; rfl
  | .raw _ _, _, _, _, ⟨h1, h2, _⟩ => by rw [h1, h2]; rfl
  | .nils, _, _, _, ⟨⟨_, h⟩, _⟩ => by rw [h]; rfl
  | .nilp, _, _, _, hr => by rw [hr.1]; rfl
theorem Rep.lentX {h : Hp} {S : Set'} : ∀ {t : Ty} {x : den t} {cs X}, Rep h S true t x cs X → X = []
  | .int _, _, _, _, hr | .bool, _, _, _, hr | .str, _, _, _, hr | .unit, _, _, _, hr => hr.2
  | .pair _ _, _, _, _, ⟨_, _, _, _, _, h2, h3, h4⟩ => by rw [h2, Rep.lentX h3, Rep.lentX h4]; rfl
  | .arr _ _, _, _, _, ⟨_, h2⟩ => RL.noX (fun _ _ _ => Rep.lentX) h2
  | .sl o _, _, _, _, ⟨_, _, _, _, hr⟩ => by
    rcases hr with ⟨_, _, _, h⟩ | ⟨_, _, _, _, _, _, _, _, _, _, hx⟩
    · exact h
    · simp at hx; exact hx.2.1
  | .ptr _ _, none, _, _, hr => hr.2
  | .ptr _ _, some _, _, _, ⟨_, _, _, _, _, _, _, _, _, _, hx⟩ => by simp at hx; exact hx.2.1
  | .ref _ _, _, _, _, ⟨_, _, _, _, _, _, _, _, _, _, hx⟩ => by simp at hx; exact hx.2.1
  | .map _ _ _, _, _, _, ⟨_, _, _, _, _, _, _, _, hx⟩ => by simp at hx; exact hx.2.1
  | .hole _, _, _, _, hr => hr.2
  | .raw _ _, _, _, _, hr => hr.2.2.2.2
  | .nils, _, _, _, hr => hr.2
  | .nilp, _, _, _, hr => hr.2
theorem Rep.flat {h : Hp} {S : Set'} {l : Bool} : ∀ {t : Ty} {x : den t} {cs X}, t.flat = true → Rep h S l t x cs X → X = [] ∧ Rep h S true t x cs []
  | .int _, _, _, _, _, hr | .bool, _, _, _, _, hr | .str, _, _, _, _, hr | .unit, _, _, _, _, hr => ⟨hr.2, hr.1, rfl⟩
  | .pair a b, _, _, _, hf, ⟨c1, c2, X1, X2, h1, h2, h3, h4⟩ => by
    simp only [Ty.flat, Bool.and_eq_true] at hf
    obtain ⟨e1, r1⟩ := Rep.flat hf.1 h3
    obtain ⟨e2, r2⟩ := Rep.flat hf.2 h4
    exact ⟨by rw [h2, e1, e2]; rfl, c1, c2, [], [], h1, rfl, r1, r2⟩
  | .arr _ t, _, _, _, hf, ⟨h1, h2⟩ => by
    have hX := RL.noX (fun _ _ _ h => (Rep.flat (t := t) hf h).1) h2
    subst hX
    exact ⟨rfl, h1, RL.mono_mem (fun x c Y _ hY hr => by
      obtain ⟨e, r⟩ := Rep.flat (t := t) hf hr
      rw [e]; exact r) h2⟩
  | .sl o t, _, _, _, hf, ⟨a, c, h1, h2, hr⟩ => by
    obtain rfl : o = false := by simpa [Ty.flat] using hf
    rcases hr with ⟨e1, e2, e3, h⟩ | ⟨b, of, arr, E, fr, X', e1, e2, e3, e4, hx⟩
    · exact ⟨h, a, c, h1, h2, .inl ⟨e1, e2, e3, rfl⟩⟩
    · simp only [Bool.false_and, Bool.false_eq_true, if_false] at hx
      obtain ⟨hS, hX, hX'⟩ := hx
      subst hX'
      simp only [Bool.not_false, Bool.or_true] at e4
      exact ⟨hX, a, c, h1, h2, .inr ⟨b, of, arr, E, fr, [], e1, e2, e3, by simpa using e4, by simp [hS]⟩⟩
  | .ptr _ _, none, _, _, _, hr => ⟨hr.2, hr.1, rfl⟩
  | .ptr o t, some _, _, _, hf, ⟨b, of, arr, E, fr, X', h1, h2, h2', h3, hx⟩ => by
    obtain rfl : o = false := by simpa [Ty.flat] using hf
    simp only [Bool.false_and, Bool.false_eq_true, if_false] at hx
    obtain ⟨hS, hX, hX'⟩ := hx
    subst hX'
    simp only [Bool.not_false, Bool.or_true] at h3
    exact ⟨hX, b, of, arr, E, fr, [], h1, h2, h2', by simpa using h3, by simp [hS]⟩
  | .ref o t, _, _, _, hf, ⟨b, of, arr, E, fr, X', h1, h2, h2', h3, hx⟩ => by
    obtain rfl : o = false := by simpa [Ty.flat] using hf
    simp only [Bool.false_and, Bool.false_eq_true, if_false] at hx
    obtain ⟨hS, hX, hX'⟩ := hx
    subst hX'
    simp only [Bool.not_false, Bool.or_true] at h3
    exact ⟨hX, b, of, arr, E, fr, [], h1, h2, h2', by simpa using h3, by simp [hS]⟩
  | .hole _, _, _, _, hf, _ => by simp [Ty.flat] at hf
  | .raw _ _, _, _, _, _, hr => ⟨hr.2.2.2.2, hr.1, hr.2.1, hr.2.2.1, hr.2.2.2.1, rfl⟩
  | .nils, _, _, _, _, hr => ⟨hr.2, hr.1, rfl⟩
  | .nilp, _, _, _, _, hr => ⟨hr.2, hr.1, rfl⟩
  | .map o k v, _, _, _, hf, ⟨b, ents, clock, X', h1, h2, hB, h3, hx⟩ => by
    obtain rfl : o = false := by simpa [Ty.flat] using hf
    simp only [Bool.false_and, Bool.false_eq_true, if_false] at hx
    obtain ⟨hS, hX, hX'⟩ := hx
    subst hX'
    simp only [Bool.not_false, Bool.or_true] at h3
    exact ⟨hX, b, ents, clock, [], h1, h2, hB, by simpa using h3, by simp [hS]⟩
theorem Rep.keep {h h' : Hp} {S S' : Set'} {l : Bool} (hS : ∀ b, S b → S' b ∧ h' b = h b) : ∀ {t : Ty} {x : den t} {cs X}, (∀ b ∈ X, h' b = h b) → Rep h S l t x cs X → Rep h' S' l t x cs X
  | .int _, _, _, _, _, hr | .bool, _, _, _, _, hr | .str, _, _, _, _, hr | .unit, _, _, _, _, hr => hr
  | .pair a b, _, _, _, hX, ⟨c1, c2, X1, X2, h1, h2, h3, h4⟩ =>
    ⟨c1, c2, X1, X2, h1, h2, Rep.keep hS (fun b hb => hX b (by simp [h2, hb])) h3, Rep.keep hS (fun b hb => hX b (by simp [h2, hb])) h4⟩
  | .arr _ t, _, _, _, hX, ⟨h1, h2⟩ => ⟨h1, RL.mono_mem (fun _ _ _ _ hY hr => Rep.keep hS (fun b hb => hX b (hY b hb)) hr) h2⟩
  | .sl o t, _, _, X, hX, ⟨a, c, h1, h2, hr⟩ => by
    refine ⟨a, c, h1, h2, ?_⟩
    rcases hr with h | ⟨b, of, arr, E, fr, X', e1, e2, e3, e4, hx⟩
    · exact .inl h
    · refine .inr ⟨b, of, arr, E, fr, X', e1, ?_, e3, ?_, ?_⟩
      · rw [← e2]
        by_cases ho : (o && !l) = true
        · simp only [ho, if_true] at hx
          exact hX b (by simp [hx.1])
        · simp only [ho, if_false] at hx
          exact (hS b hx.1).2
      · refine RL.mono_mem (fun _ _ Y _ hY hr => Rep.keep hS (fun b' hb => ?_) hr) e4
        by_cases ho : (o && !l) = true
        · simp only [ho, if_true] at hx
          exact hX b' (by simp [hx.1, hY b' hb])
        · simp only [ho, if_false] at hx
          have := hY b' hb
          simp [hx.2.2] at this
      · by_cases ho : (o && !l) = true
        · simp only [ho, if_true] at hx ⊢; exact hx
        · simp only [ho, if_false] at hx ⊢
          exact ⟨(hS b hx.1).1, hx.2⟩
  | .ptr _ _, none, _, _, _, hr => hr
  | .ptr o t, some _, _, X, hX, ⟨b, of, arr, E, fr, X', h1, h2, h2', h3, hx⟩ => by
    refine ⟨b, of, arr, E, fr, X', h1, ?_, h2', ?_, ?_⟩
    · rw [← h2]
      by_cases ho : (o && !l) = true
      · simp only [ho, if_true] at hx
        exact hX b (by simp [hx.1])
      · simp only [ho, if_false] at hx
        exact (hS b hx.1).2
    · refine Rep.keep hS (fun b' hb => ?_) h3
      by_cases ho : (o && !l) = true
      · simp only [ho, if_true] at hx
        exact hX b' (by simp [hx.1, hb])
      · simp only [ho, if_false] at hx
        simp [hx.2.2] at hb
    · by_cases ho : (o && !l) = true
      · simp only [ho, if_true] at hx ⊢; exact hx
      · simp only [ho, if_false] at hx ⊢
        exact ⟨(hS b hx.1).1, hx.2⟩
  | .ref o t, _, _, X, hX, ⟨b, of, arr, E, fr, X', h1, h2, h2', h3, hx⟩ => by
    refine ⟨b, of, arr, E, fr, X', h1, ?_, h2', ?_, ?_⟩
    · rw [← h2]
      by_cases ho : (o && !l) = true
      · simp only [ho, if_true] at hx
        exact hX b (by simp [hx.1])
      · simp only [ho, if_false] at hx
        exact (hS b hx.1).2
    · refine Rep.keep hS (fun b' hb => ?_) h3
      by_cases ho : (o && !l) = true
      · simp only [ho, if_true] at hx
        exact hX b' (by simp [hx.1, hb])
      · simp only [ho, if_false] at hx
        simp [hx.2.2] at hb
    · by_cases ho : (o && !l) = true
      · simp only [ho, if_true] at hx ⊢; exact hx
      · simp only [ho, if_false] at hx ⊢
        exact ⟨(hS b hx.1).1, hx.2⟩
  | .hole _, _, _, _, _, hr | .raw _ _, _, _, _, _, hr | .nils, _, _, _, _, hr | .nilp, _, _, _, _, hr => hr
  | .map o k v, _, _, X, hX, ⟨b, ents, clock, X', h1, h2, hB, h3, hx⟩ => by
    have hsub : ∀ b' ∈ X', h' b' = h b' := by
      intro b' hb
      by_cases ho : (o && !l) = true
      · simp only [ho, if_true] at hx
        exact hX b' (by simp [hx, hb])
      · simp only [ho, if_false] at hx
        simp [hx.2.2] at hb
    refine ⟨b, ents, clock, X', h1, ?_, hB, RM.mono_mem (fun _ _ hr => Rep.keep hS (by simp) hr) (fun _ _ Y hY hr => Rep.keep hS (fun b' hb => hsub b' (hY b' hb)) hr) h3, ?_⟩
    · rw [← h2]
      by_cases ho : (o && !l) = true
      · simp only [ho, if_true] at hx
        exact hX b (by simp [hx])
      · simp only [ho, if_false] at hx
        exact (hS b hx.1).2
    · by_cases ho : (o && !l) = true
      · simp only [ho, if_true] at hx ⊢; exact hx
      · simp only [ho, if_false] at hx ⊢
        exact ⟨(hS b hx.1).1, hx.2⟩
end Go.Proofs.YthlpjdjipchdkaaDoor.E

namespace Go.Proofs.YthlpjdjipchdkaaDoor.E
open Go
set_option linter.unusedSimpArgs false
set_option linter.unusedVariables false
inductive Sel
  | f (i : Nat)
  | i (n : Nat)
structure Pt where
  o : Nat
  t : Ty
  a : den t
structure TV where
  t : Ty
  a : den t
inductive SV
  | x
  | np
  | v (len : Bool) (t : Ty) (a : den t)
  | q (len : Bool) (t : Ty) (a : den t)
  | nl
  | p (r : Nat) (s : List Sel)
  | sf (r : Nat)
  | s (r : Nat) (lo n : Nat)
  | mp (r : Nat)
  | fn (f : FuncId) (first caps : List SV)
  | tup (l : List SV)
inductive Root
  | box (len : Bool) (t : Ty) (a : den t)
  | arr (full len : Bool) (t : Ty) (xs : List (den t))
  | map (len : Bool) (k v : Ty) (es : List (den k × den v)) (z : Option (den k × Nat))
structure St where
  t : List (Nat × SV)
  c : List (Nat × Nat × Bool × SV)
  r : List (Nat × Root)
  n : Nat
  b : Nat
  k : List (List (Nat × SV))
def look : List (Nat × Root) → Nat → Option Root
  | [], _ => none
  | (k, v) :: l, n => match Nat.beq k n with
    | true => some v
    | false => look l n
def del : List (Nat × Root) → Nat → List (Nat × Root)
  | [], _ => []
  | (k, v) :: l, n => match Nat.beq k n with
    | true => del l n
    | false => (k, v) :: del l n
def upd : List (Nat × Root) → Nat → Root → List (Nat × Root)
  | [], _, _ => []
  | (k, v) :: l, n, u => match Nat.beq k n with
    | true => (k, u) :: l
    | false => (k, v) :: upd l n u
def holeIn (r : Nat) : Ty → Bool
  | .hole k => Nat.beq k r
  | .pair a b => holeIn r a || holeIn r b
  | _ => false
def solid : Ty → Bool
  | .hole _ => false
  | .pair a b => solid a && solid b
  | _ => true
def holesOf : Ty → Nat → List (Nat × Nat)
  | .hole k, o => [(o, k)]
  | .pair a b, o => holesOf a o ++ holesOf b (o + a.size)
  | _, _ => []
def SV.uses0 (r : Nat) : SV → Bool
  | .p k _ => Nat.beq k r
  | .sf k => Nat.beq k r
  | .s k _ _ => Nat.beq k r
  | .mp k => Nat.beq k r
  | .v _ t _ => holeIn r t
  | .fn _ _ _ => true
  | .tup _ => true
  | _ => false
def anyUses0 (r : Nat) : List SV → Bool
  | [] => false
  | v :: l => v.uses0 r || anyUses0 r l
def SV.uses (r : Nat) : SV → Bool
  | .tup l => anyUses0 r l
  | .fn _ a b => anyUses0 r a || anyUses0 r b
  | sv => sv.uses0 r
def mapT (f : SV → SV) : List (Nat × SV) → List (Nat × SV)
  | [] => []
  | (k, v) :: l => (k, f v) :: mapT f l
def mapK (f : SV → SV) : List (List (Nat × SV)) → List (List (Nat × SV))
  | [] => []
  | t :: l => mapT f t :: mapK f l
def killF (r : Nat) (sv : SV) : SV := match sv.uses r with | true => .x | false => sv
def St.kill (σ : St) (r : Nat) : St := { t := mapT (killF r) σ.t, c := [], r := del σ.r r, n := σ.n, b := σ.b, k := mapK (killF r) σ.k }
def St.new (σ : St) (r : Nat) (ρ : Root) : St := { t := mapT (killF r) σ.t, c := [], r := (r, ρ) :: del σ.r r, n := σ.n, b := σ.b, k := mapK (killF r) σ.k }
def freeN (r : Nat) : List (Nat × Root) → Bool
  | [] => true
  | (_, .box _ t _) :: l => !(holeIn r t) && freeN r l
  | (_, .map _ _ _ _ (some (_, j))) :: l => !(Nat.beq j r) && freeN r l
  | _ :: l => freeN r l
def find : List (Nat × SV) → Nat → SV
  | [], _ => .x
  | (k, v) :: l, n => match Nat.beq k n with
    | true => v
    | false => find l n
def unhang (d : Nat) : List (Nat × Nat × Bool × SV) → List (Nat × Nat × Bool × SV)
  | [] => []
  | (k, e, w, v) :: l => match Nat.beq k d || Nat.beq e d with
    | true => unhang d l
    | false => (k, e, w, v) :: unhang d l
def findC : List (Nat × Nat × Bool × SV) → Nat → Nat → Bool → SV
  | [], _, _, _ => .x
  | (k, e, w, v) :: l, n, d, u => match Nat.beq k n && Nat.beq e d && boolEq w u with
    | true => v
    | false => findC l n d u
def SV.force {α : Type} (sv : SV) (k : SV → α) : α :=
  match sv with
  | .x => k .x
  | .np => k .np
  | .v l t a => k (.v l t a)
  | .q l t a => k (.q l t a)
  | .nl => k .nl
  | .p r z => k (.p r z)
  | .sf r => k (.sf r)
  | .s r lo n => k (.s r lo n)
  | .mp r => k (.mp r)
  | .fn f a b => k (.fn f a b)
  | .tup l => k (.tup l)
def St.put (σ : St) (d : Nat) (sv : SV) : St := { t := (d, sv) :: σ.t, c := unhang d σ.c, r := σ.r, n := σ.n, b := σ.b, k := σ.k }
def St.putC (σ : St) (d e : Nat) (w : Bool) (sv : SV) : St := { t := (d, .x) :: σ.t, c := (d, e, w, sv) :: unhang d σ.c, r := σ.r, n := σ.n, b := σ.b, k := σ.k }
def putK {α : Type} (σ : St) (dst : Option Nat) (sv : SV) (K : St → Option α) : Option α :=
  match dst with
  | none => K σ
  | some d => match Nat.blt d σ.n with
    | true => sv.force fun sv => K (σ.put d sv)
    | false => none
def svConst : Value → SV
  | .bool b => .v false .bool b
  | .int k n => .v false (.int k) n
  | .string s => .v false .str s.data.toList
  | .slice none 0 0 => .nl
  | .pointer none => .np
  | _ => .x
def St.at (σ : St) (g : Option (Nat × Bool)) (i : Nat) : SV :=
  match find σ.t i with
  | .x => match g with
    | some (d, w) => findC σ.c i d w
    | none => .x
  | sv => sv
abbrev Glob := Nat → Option TV
def St.arg (σ : St) (G : Glob) (g : Option (Nat × Bool)) : Operand → SV
  | .tmp i => σ.at g i
  | .const c => svConst c
  | .func f => .fn f [] []
  | .global n => match G n with | some ⟨t, a⟩ => .q true t a | none => .x
def Ty.bare : Ty → Bool
  | .hole _ => true
  | .pair a b => a.bare && b.bare
  | t => t.plain
def mkv (l : Bool) (t : Ty) (a : den t) : SV := .v (l && !t.bare) t a
def fldGet : (t : Ty) → den t → Nat → Option Pt
  | .pair a _, x, 0 => some ⟨0, a, x.1⟩
  | .pair a b, x, n + 1 => match fldGet b x.2 n with
    | some ⟨o, u, r⟩ => some ⟨a.size + o, u, r⟩
    | none => none
  | _, _, _ => none
def cast? {t : Ty} (u : Ty) (a : den t) : Option (den u) :=
  match h : tyEq t u with
  | true => some (tyEq_iff h ▸ a)
  | false => none
def fldSet : (t : Ty) → den t → Nat → ((u : Ty) → den u → Option (den u)) → Option (den t)
  | .pair a _, x, 0, f => match f a x.1 with | some y => some (y, x.2) | none => none
  | .pair a b, x, n + 1, f => match fldSet b x.2 n f with | some y => some (x.1, y) | none => none
  | _, _, _, _ => none
def selGet : List Sel → (t : Ty) → den t → Option Pt
  | [], t, x => some ⟨0, t, x⟩
  | .f i :: s, t, x => match fldGet t x i with
    | some ⟨o, u, y⟩ => match selGet s u y with
      | some ⟨o', w, r⟩ => some ⟨o + o', w, r⟩
      | none => none
    | none => none
  | .i n :: s, .arr _ t, x => match solid t with
    | true => match selGet s t (List.getD x n (dflt t)) with
      | some ⟨o', w, r⟩ => some ⟨n * t.size + o', w, r⟩
      | none => none
    | false => none
  | _, _, _ => none
def selSet : List Sel → (u : Ty) → den u → (t : Ty) → den t → Option (den t)
  | [], u, y, t, _ => cast? t y
  | .f i :: s, u, y, t, x => fldSet t x i (fun a z => selSet s u y a z)
  | .i n :: s, u, y, .arr _ t, x => match selSet s u y t (List.getD x n (dflt t)) with
      | some z => some (List.set x n z)
      | none => none
  | _, _, _, _, _ => none
def layB : Ty → Ty → Bool
  | .pair a b, .pair c d => layB a c && layB b d
  | .pair _ _, _ => false
  | .arr n t, .arr m u => Nat.beq n m && tyEq t u
  | .arr _ _, _ => false
  | .unit, .unit => true
  | .unit, _ => false
  | _, .unit => false
  | _, .pair _ _ => false
  | _, .arr _ _ => false
  | t, u => Nat.beq t.size u.size
def fldPut : (t : Ty) → den t → Nat → ((u : Ty) → den u → Option TV) → Option TV
  | .pair a b, x, 0, f => match f a x.1 with | some ⟨c, y⟩ => some ⟨.pair c b, (y, x.2)⟩ | none => none
  | .pair a b, x, n + 1, f => match fldPut b x.2 n f with | some ⟨c, y⟩ => some ⟨.pair a c, (x.1, y)⟩ | none => none
  | _, _, _, _ => none
def selPut : List Sel → (u : Ty) → den u → (t : Ty) → den t → Option TV
  | [], u, y, t, _ => match layB t u with | true => some ⟨u, y⟩ | false => none
  | .f i :: s, u, y, t, x => fldPut t x i (fun a z => selPut s u y a z)
  | .i n :: s, u, y, .arr m t, x => match u.flat with
    | true => match selSet s u y t (List.getD x n (dflt t)) with
      | some z => some ⟨.arr m t, List.set x n z⟩
      | none => none
    | false => none
  | _, _, _, _, _ => none
def Root.get (s : List Sel) : Root → Option (Bool × Pt)
  | .box l t a => match selGet s t a with | some r => some (l, r) | none => none
  | .arr _ l t xs => match s with
    | .i n :: s => match solid t with
      | true => match selGet s t (xs.getD n (dflt t)) with | some ⟨o, u, r⟩ => some (l, ⟨n * t.size + o, u, r⟩) | none => none
      | false => none
    | _ => none
  | .map _ _ _ _ _ => none
def Root.put (s : List Sel) (u : Ty) (y : den u) : Root → Option Root
  | .box l t a => match selPut s u y t a with | some ⟨t', z⟩ => some (.box l t' z) | none => none
  | .arr f l t xs => match s with
    | .i n :: s => match u.flat with
      | true => match selSet s u y t (xs.getD n (dflt t)) with | some z => some (.arr f l t (xs.set n z)) | none => none
      | false => none
    | _ => none
  | .map _ _ _ _ _ => none
def Root.len : Root → Bool
  | .box l _ _ => l
  | .arr _ l _ _ => l
  | .map l _ _ _ _ => l
def nthF : List Field → Nat → Option Field
  | [], _ => none
  | f :: _, 0 => some f
  | _ :: l, n + 1 => nthF l n
structure TI where
  d : TypeDesc
  size : Nat
  bytes : Nat
  zero : List Value
  eq : Bool
abbrev Tab := TypeId → Option TI
def und (P : Tab) (t : TypeId) : Option TypeDesc := match P t with | some i => some i.d | none => none
def szB (P : Tab) (t : TypeId) (n : Nat) : Bool := match P t with | some i => Nat.beq i.size n | none => false
def aggB (P : Tab) (t : TypeId) (b : Bool) : Bool :=
  match und P t with
  | some (.struct _) | some (.array _ _) => b
  | some _ => !b
  | none => false
def fits (P : Tab) (t : TypeId) (τ : Ty) : Bool := szB P t τ.size && aggB P t τ.isAgg
def br {R : Type} (c : Bool) (a b : Option R) : Option R := cond c a b
def bd {A R : Type} (o : Option A) (f : A → Option R) : Option R := o.bind f
def inB (i : Int) (n : Nat) : Bool := decide (0 ≤ i) && decide (i < n)
def leB (i : Int) (n : Nat) : Bool := decide (0 ≤ i) && decide (i ≤ n)
def makeB (n c : Int) (b : Nat) : Bool := decide (0 ≤ n) && decide (n ≤ c) && decide (c * b ≤ 140737488355328)
theorem inB_iff {i : Int} {n : Nat} : inB i n = true ↔ 0 ≤ i ∧ i < n := by simp [inB]
theorem leB_iff {i : Int} {n : Nat} : leB i n = true ↔ 0 ≤ i ∧ i ≤ n := by simp [leB]
theorem makeB_iff {n c : Int} {b : Nat} : makeB n c b = true ↔ 0 ≤ n ∧ n ≤ c ∧ c * b ≤ 140737488355328 := by simp [makeB, and_assoc]
def denEq : (t : Ty) → den t → den t → Bool
  | .int _, a, b => decide (a = b)
  | .bool, a, b => boolEq a b
  | .str, a, b => (a == b)
  | .unit, _, _ => true
  | .pair s t, a, b => denEq s a.1 b.1 && denEq t a.2 b.2
  | _, _, _ => false
def eqTy : Ty → Bool
  | .int _ | .bool | .str | .unit => true
  | .pair a b => eqTy a && eqTy b
  | _ => false
def eqB (P : Tab) (t : TypeId) : Bool := match P t with | some i => i.eq | none => false
def eqOkF (P : Tab) (q : TypeId → Ty → Bool) : List Field → Nat → Ty → Bool
  | [], _, .unit => true
  | f :: fs, o, .pair a b => Nat.beq f.offset o && szB P f.type a.size && aggB P f.type a.isAgg && q f.type a && (!(f.name == "_")) && eqOkF P q fs (o + a.size) b
  | _, _, _ => false
def eqOk (P : Tab) : Nat → TypeId → Ty → Bool
  | 0, _, _ => false
  | n + 1, t, τ => match τ with
    | .int k => match und P t with | some (.int j) => kindEq k j | _ => false
    | .bool => match und P t with | some .bool => true | _ => false
    | .str => match und P t with | some .string => true | _ => false
    | .unit => match und P t with | some (.struct fs) => eqB P t && eqOkF P (eqOk P n) fs.toList 0 .unit | _ => false
    | .pair a b => match und P t with | some (.struct fs) => eqB P t && eqOkF P (eqOk P n) fs.toList 0 (.pair a b) | _ => false
    | _ => false
def mfind {K V : Type} (eq : K → K → Bool) : List (K × V) → K → Option V
  | [], _ => none
  | (k, v) :: l, y => cond (eq y k) (some v) (mfind eq l y)
def madj {K V : Type} (eq : K → K → Bool) : List (K × V) → K → V → List (K × V)
  | [], _, _ => []
  | (k, v) :: l, y, z => cond (eq y k) ((k, z) :: l) ((k, v) :: madj eq l y z)
def mput {K V : Type} (eq : K → K → Bool) : List (K × V) → K → V → List (K × V)
  | [], y, z => [(y, z)]
  | (k, v) :: l, y, z => cond (eq y k) ((y, z) :: l) ((k, v) :: mput eq l y z)
def mdel {K V : Type} (eq : K → K → Bool) : List (K × V) → K → List (K × V)
  | [], _ => []
  | (k, v) :: l, y => cond (eq y k) l ((k, v) :: mdel eq l y)
end Go.Proofs.YthlpjdjipchdkaaDoor.E

namespace Go.Proofs.YthlpjdjipchdkaaDoor.E
open Go
set_option linter.unusedSimpArgs false
set_option linter.unusedVariables false
def appN : List Nat → List Nat → List Nat
  | [], l => l
  | a :: r, l => a :: appN r l
def natMem (n : Nat) : List Nat → Bool
  | [] => false
  | k :: l => Nat.beq k n || natMem n l
def nodupN : List Nat → Bool
  | [] => true
  | k :: l => !(natMem k l) && nodupN l
def nilL {α : Type} : List α → Bool
  | [] => true
  | _ :: _ => false
def killL : List Nat → St → St
  | [], σ => σ
  | n :: l, σ => killL l (σ.kill n)
def holeSV (ρ : List (Nat × Root)) (k : Nat) : SV :=
  match look ρ k with
  | some (.box _ _ _) => .p k []
  | some (.arr _ _ _ _) => .sf k
  | some (.map _ _ _ _ _) => .mp k
  | none => .x
structure FV where
  t : Ty
  a : den t
  l : List Nat
def fullT (q : Nat → Option FV) : (t : Ty) → den t → Option FV
  | .hole k, _ => q k
  | .pair a b, x => match fullT q a x.1 with
    | some ⟨u, y, l⟩ => match fullT q b x.2 with
      | some ⟨w, z, m⟩ => some ⟨.pair u w, (y, z), appN l m⟩
      | none => none
    | none => none
  | t, x => some ⟨t, x, []⟩
def fullR (ρ : List (Nat × Root)) (len : Bool) : Nat → Nat → Option FV
  | 0, _ => none
  | n + 1, k => match look ρ k with
    | some (.box l t a) => match !l || len with
      | true => match fullT (fullR ρ len n) t a with
        | some ⟨u, y, m⟩ => some ⟨.ref true u, y, k :: m⟩
        | none => none
      | false => none
    | some (.arr _ l t xs) => match !l || len with
      | true => some ⟨.sl true t, xs, [k]⟩
      | false => none
    | some (.map l kt vt es z) => match !l || len with
      | true => match z with
        | none => some ⟨.map true kt vt, es, [k]⟩
        | some (y, j) => match fullR ρ len n j with
          | some ⟨u, w, m⟩ => match cast? (t := u) vt w with
            | some w => some ⟨.map true kt vt, madj (denEq kt) es y w, k :: m⟩
            | none => none
          | none => none
      | false => none
    | none => none
def coe : (τ : Ty) → (t : Ty) → den t → Option (den τ)
  | .pair a b, .pair c d, x => match coe a c x.1, coe b d x.2 with
    | some y, some z => some (y, z)
    | _, _ => none
  | .ptr o a, .ref p b, x => match boolEq o p with
    | true => match coe a b x with
      | some y => some (some y)
      | none => none
    | false => none
  | .ref o a, .ref p b, x => match boolEq o p with
    | true => coe a b x
    | false => none
  | .ptr _ _, .nilp, _ => some none
  | .sl _ _, .nils, _ => some []
  | τ, t, x => cast? (t := t) τ x
def coeL : (τ : Ty) → (t : Ty) → den t → Option (den τ)
  | .pair a b, .pair c d, x => match coeL a c x.1, coeL b d x.2 with
    | some y, some z => some (y, z)
    | _, _ => none
  | .ptr _ a, .ref _ b, x => match coeL a b x with
    | some y => some (some y)
    | none => none
  | .ref _ a, .ref _ b, x => coeL a b x
  | .ptr _ _, .nilp, _ => some none
  | .sl _ _, .nils, _ => some []
  | .sl _ a, .sl _ b, x => cast? (t := .sl false b) (.sl false a) x
  | .map _ a b, .map _ c d, x => cast? (t := .map false c d) (.map false a b) x
  | τ, t, x => cast? (t := t) τ x
def keepQ (kp : List Nat) (q : Nat → Option FV) (k : Nat) : Option FV :=
  match natMem k kp with
  | true => some ⟨.hole k, (), []⟩
  | false => q k
def solidK (kp : List Nat) : Ty → Bool
  | .hole k => natMem k kp
  | .pair a b => solidK kp a && solidK kp b
  | _ => true
def joinK (kp : List Nat) (σ : St) (r : Nat) : Option St :=
  match look σ.r r with
  | some (.box l t a) => match solidK kp t with
    | true => some σ
    | false => match fullT (keepQ kp (fullR σ.r l 9)) t a with
      | some ⟨u, y, m⟩ => match nodupN (r :: m) with
        | true => some { t := (killL m σ).t, c := (killL m σ).c, r := upd (killL m σ).r r (.box l u y), n := (killL m σ).n, b := (killL m σ).b, k := (killL m σ).k }
        | false => none
      | none => none
  | some (.arr _ _ _ _) => some σ
  | some (.map l kt vt es z) => match z with
    | none => some σ
    | some (y, j) => match fullR σ.r l 9 j with
      | some ⟨u, w, m⟩ => match cast? (t := u) vt w, nodupN (r :: m) with
        | some w, true => some { t := (killL m σ).t, c := (killL m σ).c, r := upd (killL m σ).r r (.map l kt vt (madj (denEq kt) es y w) none), n := (killL m σ).n, b := (killL m σ).b, k := (killL m σ).k }
        | _, _ => none
      | none => none
  | none => none
def joinR (σ : St) (r : Nat) : Option St := joinK [] σ r
structure Apart where
  t : Ty
  a : den t
  l : List (Nat × Root)
  n : Nat
def appR : List (Nat × Root) → List (Nat × Root) → List (Nat × Root)
  | [], l => l
  | a :: r, l => a :: appR r l
def apartK {R : Type} (len : Bool) : (t : Ty) → den t → Nat → (Apart → Option R) → Option R
  | .pair a b, x, n, K => apartK len a x.1 n fun A => match A with | ⟨t1, a1, l1, n1⟩ => apartK len b x.2 n1 fun B => match B with | ⟨t2, a2, l2, n2⟩ => K ⟨.pair t1 t2, (a1, a2), appR l1 l2, n2⟩
  | .sl true t, x, n, K => K ⟨.hole n, (), [(n, .arr false (len && !t.plain) t x)], n + 1000⟩
  | .ref true t, x, n, K => match solid t with | true => K ⟨.hole n, (), [(n, .box (len && !t.plain) t x)], n + 1000⟩ | false => none
  | .map true k v, x, n, K => K ⟨.hole n, (), [(n, .map (len && !(k.plain && v.plain)) k v x none)], n + 1000⟩
  | .ptr true t, x, n, K => match solid t with | true => br x.isSome (K ⟨.hole n, (), [(n, .box (len && !t.plain) t (x.getD (dflt t)))], n + 1000⟩) (K ⟨.nilp, (), [], n⟩) | false => none
  | t, x, n, K => K ⟨t, x, [], n⟩
def calmT : Ty → Bool
  | .hole _ => true
  | .pair a b => calmT a && calmT b
  | t => t.flat
def addRoots : List (Nat × Root) → St → Option St
  | [], σ => some σ
  | (n, R) :: l, σ => match freeN n σ.r with
    | true => addRoots l (σ.new n R)
    | false => none
def notIn (r : Nat) : List (Nat × Root) → Bool
  | [] => true
  | (k, _) :: l => !(Nat.beq k r) && notIn r l
def resSV (ρ : List (Nat × Root)) (len : Bool) (t : Ty) (a : den t) : SV :=
  match t with
  | .hole k => holeSV ρ k
  | .nilp => .np
  | .nils => .nl
  | t => mkv len t a
def plugT (k : Nat) (u : Ty) (y : den u) : (t : Ty) → den t → TV
  | .hole j, x => match Nat.beq j k with
    | true => ⟨u, y⟩
    | false => ⟨.hole j, x⟩
  | .pair a b, x => match plugT k u y a x.1, plugT k u y b x.2 with
    | ⟨c, z⟩, ⟨d, w⟩ => ⟨.pair c d, (z, w)⟩
  | t, x => ⟨t, x⟩
def plugV (k : Nat) (l : Bool) (u : Ty) (y : den u) (len : Bool) (t : Ty) (a : den t) : SV :=
  match plugT k u y t a with
  | ⟨t, a⟩ => .v (len || l) t a
def frz (r : Nat) (l : Bool) (t : Ty) (xs : List (den t)) : SV → SV
  | .sf k => match Nat.beq k r with | true => .v l (.sl false t) xs | false => .sf k
  | .s k lo n => match Nat.beq k r with | true => .v l (.sl false t) ((xs.drop lo).take n) | false => .s k lo n
  | .v len u a => match holeIn r u with | true => plugV r l (.sl false t) xs len u a | false => .v len u a
  | sv => match sv.uses r with | true => .x | false => sv
def frzR (r : Nat) (l : Bool) (t : Ty) (xs : List (den t)) : List (Nat × Root) → List (Nat × Root)
  | [] => []
  | (n, R) :: ρ => (n, match R with
    | .box len u a => match holeIn r u with
      | true => match plugT r (.sl false t) xs u a with
        | ⟨u, a⟩ => .box (len || l) u a
      | false => .box len u a
    | R => R) :: frzR r l t xs ρ
def St.frz (σ : St) (r : Nat) : St :=
  match look σ.r r with
  | some (.arr _ l t xs) => match t.flat with
    | true => { t := mapT (E.frz r l t xs) σ.t, c := [], r := frzR r l t xs (del σ.r r), n := σ.n, b := σ.b, k := mapK (E.frz r l t xs) σ.k }
    | false => σ
  | _ => σ
def SV.root : SV → Option Nat
  | .sf r => some r
  | .s r _ _ => some r
  | _ => none
def firstHole : Ty → Option Nat
  | .hole k => some k
  | .pair a b => match firstHole a with
    | some k => some k
    | none => firstHole b
  | _ => none
def shareH : Nat → St → (len : Bool) → (t : Ty) → den t → SV × St
  | 0, σ, _, _, _ => (.x, σ)
  | n + 1, σ, len, t, a => match firstHole t with
    | none => (.v len t a, σ)
    | some k => match look σ.r k with
      | some (.arr _ l u xs) => match u.flat with
        | true => match plugT k (.sl false u) xs t a with
          | ⟨t, a⟩ => shareH n (σ.frz k) (len || l) t a
        | false => (.x, σ)
      | _ => (.x, σ)
def sharedV (σ : St) (sv : SV) : SV × St :=
  match sv with
  | .v len t a => match solid t with
    | true => (sv, σ)
    | false => shareH 9 σ len t a
  | sv => match sv.root with
    | some r => match look σ.r r with
      | some (.arr _ l t xs) => match t.flat with
        | true => (frz r l t xs sv, σ.frz r)
        | false => (.x, σ)
      | _ => (.x, σ)
    | none => (sv, σ)
def toV (len : Bool) (τ : Ty) : SV → Option (den τ)
  | .v l t a => match !l || len with
    | true => coeL τ t a
    | false => none
  | .q l t a => match τ with
    | .ref false u => match !l || len with | true => coeL u t a | false => none
    | .ptr false u => match !l || len with
      | true => match coeL u t a with | some y => some (some y) | none => none
      | false => none
    | _ => none
  | .nl => match τ with | .sl _ _ => some [] | _ => none
  | .np => match τ with | .ptr _ _ => some none | _ => none
  | _ => none
def takeN (σ : St) (τ : Ty) (sv : SV) : Option (den τ × List Nat) :=
  match sv with
  | .nl => match τ with | .sl true _ => some ([], []) | _ => none
  | .np => match τ with | .ptr true _ => some (none, []) | _ => none
  | .s r lo n => match τ with
    | .sl true u => match look σ.r r with
      | some (.arr _ false t xs) => match cast? (t := .sl true t) (.sl true u) xs with
        | some ys => some ((ys.drop lo).take n, [r])
        | none => none
      | _ => none
    | _ => none
  | .v false t a => match fullT (fullR σ.r false 9) t a with
    | some ⟨u, y, m⟩ => match nodupN m && calmT t, coe τ u y with
      | true, some z => some (z, m)
      | _, _ => none
    | none => none
  | .p r [] => match fullR σ.r false 9 r with
    | some ⟨u, y, m⟩ => match nodupN m, coe τ u y with
      | true, some z => some (z, m)
      | _, _ => none
    | none => none
  | .sf r | .mp r => match fullR σ.r false 9 r with
    | some ⟨u, y, m⟩ => match nodupN m, coe τ u y with
      | true, some z => some (z, m)
      | _, _ => none
    | none => none
  | _ => none
def takeV (σ : St) (τ : Ty) (sv : SV) : Option (den τ × St) :=
  match τ.flat with
  | true => match sharedV σ sv with
    | (sv, σ) => match toV false τ sv with
      | some y => some (y, σ)
      | none => none
  | false => match takeN σ τ sv with
    | some (y, m) => some (y, killL m σ)
    | none => none
abbrev OpR := Option (Bool × SV × St)
def bin (op : BinOp) (k : IntKind) (a b : Int) : Option (Bool × SV) :=
  match op with
  | .add => some (true, .v false (.int k) (k.wrap (a + b)))
  | .sub => some (true, .v false (.int k) (k.wrap (a - b)))
  | .mul => some (true, .v false (.int k) (k.wrap (a * b)))
  | .quo => some (!(b == 0), .v false (.int k) (k.wrap (a.tdiv b)))
  | .rem => some (!(b == 0), .v false (.int k) (a.tmod b))
  | .and => some (true, .v false (.int k) (k.wrap (BitVec.ofInt k.bits a &&& BitVec.ofInt k.bits b).toNat))
  | .or => some (true, .v false (.int k) (k.wrap (BitVec.ofInt k.bits a ||| BitVec.ofInt k.bits b).toNat))
  | .xor => some (true, .v false (.int k) (k.wrap (BitVec.ofInt k.bits a ^^^ BitVec.ofInt k.bits b).toNat))
  | .andNot => some (true, .v false (.int k) (k.wrap (BitVec.ofInt k.bits a &&& ~~~(BitVec.ofInt k.bits b)).toNat))
  | .shl => some (decide (0 ≤ b), .v false (.int k) (k.wrap (a * 2 ^ (min b.toNat k.bits))))
  | .shr => some (decide (0 ≤ b), .v false (.int k) (a.fdiv (2 ^ (min b.toNat k.bits))))
  | .eql => some (true, .v false .bool (a == b))
  | .neq => some (true, .v false .bool (a != b))
  | .lss => some (true, .v false .bool (decide (a < b)))
  | .leq => some (true, .v false .bool (decide (a ≤ b)))
  | .gtr => some (true, .v false .bool (decide (a > b)))
  | .geq => some (true, .v false .bool (decide (a ≥ b)))
def isShift : BinOp → Bool
  | .shl | .shr => true
  | _ => false
def binStr (op : BinOp) (a b : List UInt8) : Option (Bool × SV) :=
  match op with
  | .add => some (decide (a.length + b.length ≤ 9223372036854775807), .v false .str (a ++ b))
  | .eql => some (true, .v false .bool (a == b))
  | .neq => some (true, .v false .bool (!(a == b)))
  | .lss => some (true, .v false .bool (Op.bytesLess a b))
  | .leq => some (true, .v false .bool (Op.bytesLess a b || a == b))
  | .gtr => some (true, .v false .bool (!(Op.bytesLess a b || a == b)))
  | .geq => some (true, .v false .bool (!Op.bytesLess a b))
  | _ => none
def ptrB (P : Tab) (t : TypeId) : Bool := match und P t with | some (.pointer e) => (P e).isSome | _ => false
def opBin (P : Tab) (op : BinOp) (t : TypeId) (a b : SV) (σ : St) : OpR :=
  match a, b with
  | .v _ (.int k) n, .v _ (.int j) m => match isShift op || kindEq k j with
    | true => match bin op k n m with | some (c, s) => some (c, s, σ) | none => none
    | false => none
  | .v _ .str n, .v _ .str m => match binStr op n m with | some (c, s) => some (c, s, σ) | none => none
  | .v _ .bool n, .v _ .bool m => match und P t, op with
    | some .bool, .eql => some (true, .v false .bool (n == m), σ)
    | some .bool, .neq => some (true, .v false .bool (!(n == m)), σ)
    | _, _ => none
  | .v _ (.pair x y) n, .v _ u m => match cast? (t := u) (.pair x y) m with
    | some m => match eqTy (.pair x y) && eqOk P 20 t (.pair x y), op with
      | true, .eql => some (true, .v false .bool (denEq (.pair x y) n m), σ)
      | true, .neq => some (true, .v false .bool (!(denEq (.pair x y) n m)), σ)
      | _, _ => none
    | none => none
  | .p _ _, .np | .q _ _ _, .np => match und P t, op with
    | some (.pointer _), .eql => some (true, .v false .bool false, σ)
    | some (.pointer _), .neq => some (true, .v false .bool true, σ)
    | _, _ => none
  | .p r [], .p k [] => match Nat.beq r k && ptrB P t, op with
    | true, .eql => some (true, .v false .bool true, σ)
    | true, .neq => some (true, .v false .bool false, σ)
    | _, _ => none
  | .np, .np => match und P t, op with
    | some (.pointer _), .eql => some (true, .v false .bool true, σ)
    | some (.pointer _), .neq => some (true, .v false .bool false, σ)
    | _, _ => none
  | _, _ => none
def opUn (op : UnOp) (a : SV) (σ : St) : OpR :=
  match op, a with
  | .not, .v _ .bool b => some (true, .v false .bool (!b), σ)
  | .neg, .v _ (.int k) n => some (true, .v false (.int k) (k.wrap (0 - n)), σ)
  | .xor, .v _ (.int k) n => some (true, .v false (.int k) (k.wrap (BitVec.ofInt k.bits (if k.signed then -1 else k.max) ^^^ BitVec.ofInt k.bits n).toNat), σ)
  | _, _ => none
def opPick (c a b : SV) (σ : St) : OpR :=
  match c, a, b with
  | .v _ .bool g, .v _ .bool a, .v _ .bool b => some (true, .v false .bool (bif g then a else b), σ)
  | .v _ .bool g, a, b => match g with | true => some (true, a, σ) | false => some (true, b, σ)
  | _, _, _ => none
def opLoad (P : Tab) (t : TypeId) (a : SV) (σ : St) : OpR :=
  match a with
  | .q l τ x => match fits P t τ && ((τ.flat || l) && solid τ) with | true => some (true, mkv l τ x, σ) | false => none
  | .p r s => match look σ.r r with
    | some ρ => match ρ.get s with
      | some (l, ⟨_, τ, x⟩) => match fits P t τ && calmT τ with
        | true => some (true, resSV σ.r l τ x, σ)
        | false => none
      | none => none
    | none => none
  | _ => none
def loadK {R : Type} (P : Tab) (d : Option Nat) (t : TypeId) (a : SV) (σ : St) (K : SV → St → Option R) : Option R :=
  match a, d with
  | .p r s, some d => match look σ.r r with
    | some (.box l t0 x0) => match selGet s t0 x0 with
      | some ⟨_, τ, x⟩ => match fits P t τ with
        | true => apartK l τ x (σ.b + d) fun A => match A with
          | ⟨u, y, m, _⟩ => match calmT u && notIn r m with
            | true => match selPut s u y t0 x0 with
              | some ⟨t', x'⟩ => match addRoots m σ with
                | some σ' => K (resSV (upd σ'.r r (.box l t' x')) l u y) { t := σ'.t, c := σ'.c, r := upd σ'.r r (.box l t' x'), n := σ'.n, b := σ'.b, k := σ'.k }
                | none => none
              | none => none
            | false => none
        | false => none
      | none => none
    | _ => none
  | _, _ => none
def layT (σ : St) (len : Bool) (sv : SV) : Option TV :=
  match sv with
  | .sf k => match look σ.r k with | some (.arr _ _ _ _) => some ⟨.hole k, ()⟩ | _ => none
  | .p k [] => match look σ.r k with | some (.box _ _ _) => some ⟨.hole k, ()⟩ | _ => none
  | .mp k => match look σ.r k with | some (.map _ _ _ _ _) => some ⟨.hole k, ()⟩ | _ => none
  | .nl => some ⟨.nils, ()⟩
  | .np => some ⟨.nilp, ()⟩
  | .v l t a => match calmT t && (!l || len) with | true => some ⟨t, a⟩ | false => none
  | _ => none
def ownish : Ty → Bool
  | .nils | .nilp => true
  | .pair a b => ownish a || ownish b
  | t => !t.flat
def anyLen : List SV → Bool
  | [] => false
  | .v l _ _ :: r => l || anyLen r
  | .q l _ _ :: r => l || anyLen r
  | _ :: r => anyLen r
def Root.wide (l : Bool) : Root → Root
  | .box l' t a => .box (l' || l) t a
  | .arr f l' t xs => .arr f (l' || l) t xs
  | .map l' k v es z => .map (l' || l) k v es z
def opStore (P : Tab) (t : TypeId) (a v : SV) (σ : St) : OpR :=
  match a with
  | .p r s => match look σ.r r with
    | some ρ0 => match ρ0.get s with
      | some (_, ⟨_, τ, _⟩) => match ownish τ with
        | false => match sharedV σ v with
          | (v, σ) => match look σ.r r with
            | some ρ => match fits P t τ with
              | true => match toV true τ v with
                | some y => match (ρ.wide (anyLen [v] && !τ.plain)).put s τ y with
                  | some ρ' => some (true, .x, { t := σ.t, c := σ.c, r := upd σ.r r ρ', n := σ.n, b := σ.b, k := σ.k })
                  | none => none
                | none => none
              | false => none
            | none => none
        | true => match layT σ true v with
          | some ⟨u, y⟩ => match fits P t u with
            | true => match (ρ0.wide (anyLen [v])).put s u y with
              | some ρ' => some (true, .x, { t := σ.t, c := σ.c, r := upd σ.r r ρ', n := σ.n, b := σ.b, k := σ.k })
              | none => none
            | false => none
          | none => none
      | none => none
    | none => none
  | _ => none
def opFld (P : Tab) (t : TypeId) (a : SV) (f : Nat) (σ : St) : OpR :=
  match und P t with
  | some (.struct fs) => match nthF fs.toList f with
    | some fd => match a with
      | .q l τ x => match fldGet τ x f with
        | some ⟨o, u, y⟩ => match Nat.beq fd.offset o && szB P fd.type u.size && !(Nat.beq u.size 0) with
          | true => some (true, .q l u y, σ)
          | false => none
        | none => none
      | .p r s => match look σ.r r with
        | some ρ => match ρ.get s with
          | some (_, ⟨_, τ, x⟩) => match fldGet τ x f with
            | some ⟨o, u, _⟩ => match Nat.beq fd.offset o && szB P fd.type u.size && !(Nat.beq u.size 0) with
              | true => some (true, .p r (s ++ [.f f]), σ)
              | false => none
            | none => none
          | none => none
        | none => none
      | _ => none
    | none => none
  | _ => none
def opIdxA (P : Tab) (t : TypeId) (a i : SV) (σ : St) : OpR :=
  match i with
  | .v _ (.int _) i => match und P t with
    | some (.slice e) => match a with
      | .v l (.sl _ u) xs => match szB P e u.size && !(Nat.beq u.size 0) with
        | true => some (inB i xs.length, .q l u (xs.getD i.toNat (dflt u)), σ)
        | false => none
      | .sf r => match look σ.r r with
        | some (.arr _ _ u xs) => match szB P e u.size && !(Nat.beq u.size 0) with
          | true => some (inB i xs.length, .p r [.i i.toNat], σ)
          | false => none
        | _ => none
      | .s r lo n => match look σ.r r with
        | some (.arr _ _ u _) => match szB P e u.size && !(Nat.beq u.size 0) with
          | true => some (inB i n, .p r [.i (lo + i.toNat)], σ)
          | false => none
        | _ => none
      | .nl => some (false, .x, σ)
      | _ => none
    | some (.array n e) => match a with
      | .p r s => match look σ.r r with
        | some ρ => match ρ.get s with
          | some (_, ⟨_, .arr m u, _⟩) => match szB P e u.size && !(Nat.beq u.size 0) && Nat.beq n m with
            | true => some (inB i n, .p r (s ++ [.i i.toNat]), σ)
            | false => none
          | _ => none
        | none => none
      | .q l (.arr m u) xs => match szB P e u.size && !(Nat.beq u.size 0) && Nat.beq n m with
        | true => some (inB i n, .q l u (List.getD xs i.toNat (dflt u)), σ)
        | false => none
      | _ => none
    | _ => none
  | _ => none
def opIdx (P : Tab) (t : TypeId) (a i : SV) (σ : St) : OpR :=
  match i with
  | .v _ (.int _) i => match und P t, a with
    | some .string, .v _ .str s => some (inB i s.length, .v false (.int .u8) ((s.getD i.toNat 0).toNat : Int), σ)
    | some (.array n e), .v l (.arr m u) xs => match fits P e u && (Nat.beq n m && solid u) with
      | true => some (inB i n, mkv l u (xs.getD i.toNat (dflt u)), σ)
      | false => none
    | _, _ => none
  | _ => none
def bndM (n : Nat) : Option SV → Option (Bool × Nat)
  | none => some (true, n)
  | some (.v _ (.int _) i) => some (leB i n, Int.toNat i)
  | _ => none
def bndH (n m : Nat) : Option SV → Bool → Option (Bool × Nat)
  | none, false => some (true, n)
  | some (.v _ (.int _) i), _ => some (leB i m, Int.toNat i)
  | _, _ => none
def bndL (h : Nat) : Option SV → Option (Bool × Nat)
  | none => some (true, 0)
  | some (.v _ (.int _) i) => some (leB i h, Int.toNat i)
  | _ => none
def bnd (n : Nat) (lo hi mx : Option SV) : Option (Bool × Nat × Nat) :=
  match bndM n mx with
  | none => none
  | some (cm, m) => match bndH n m hi mx.isSome with
    | none => none
    | some (ch, h) => match bndL h lo with
      | none => none
      | some (cl, l) => some (cm && ch && cl, l, h)
def cutL {α : Type} (xs : List α) (lo hi mx : Option SV) (l h : Nat) : List α :=
  match lo, hi with
  | none, none => xs
  | none, some _ => xs.take h
  | some _, none => xs.drop l
  | some _, some _ => (xs.take h).drop l
def opSlice (P : Tab) (t : TypeId) (a : SV) (lo hi mx : Option SV) (σ : St) : OpR :=
  match und P t with
  | some .string => match a, mx with
    | .v _ .str s, none => match bnd s.length lo hi none with
      | some (c, l, h) => some (c, .v false .str (cutL s lo hi mx l h), σ)
      | none => none
    | _, _ => none
  | some (.slice e) => match a with
    | .v len (.sl o u) xs => match szB P e u.size && !(Nat.beq u.size 0) with
      | true => match bnd xs.length lo hi mx with
        | some (c, l, h) => some (c, .v len (.sl o u) (cutL xs lo hi mx l h), σ)
        | none => none
      | false => none
    | .sf r => match look σ.r r with
      | some (.arr false _ u xs) => match szB P e u.size && !(Nat.beq u.size 0) with
        | true => match bnd xs.length lo hi mx with
          | some (c, l, h) => some (c, .s r l (h - l), σ)
          | none => none
        | false => none
      | _ => none
    | .s r b n => match look σ.r r with
      | some (.arr false _ u _) => match szB P e u.size && !(Nat.beq u.size 0) with
        | true => match bnd n lo hi mx with
          | some (c, l, h) => some (c, .s r (b + l) (h - l), σ)
          | none => none
        | false => none
      | _ => none
    | .nl => match P e with
      | some _ => match bnd 0 lo hi mx with
        | some (c, _, _) => some (c, .nl, σ)
        | none => none
      | none => none
    | _ => none
  | _ => none
def opSlice0 (P : Tab) (t : TypeId) (a : SV) (lo hi mx : Option SV) (σ : St) : OpR :=
  match und P t, opSlice P t a lo hi mx σ with
  | some (.slice _), some (c, _, σ) => some (c, .nl, σ)
  | _, _ => none
def isZero : Option Operand → Bool
  | some (.const (.int _ (.ofNat 0))) => true
  | _ => false
def opLen (P : Tab) (t : TypeId) (a : SV) (σ : St) : OpR :=
  match und P t with
  | some .string => match a with | .v _ .str s => some (true, .v false (.int .i64) (s.length : Int), σ) | _ => none
  | some (.array n _) => some (true, .v false (.int .i64) (n : Int), σ)
  | some (.slice _) => match a with
    | .v _ (.sl _ _) xs => some (true, .v false (.int .i64) (xs.length : Int), σ)
    | .nl => some (true, .v false (.int .i64) 0, σ)
    | .sf r => match look σ.r r with | some (.arr _ _ _ xs) => some (true, .v false (.int .i64) (xs.length : Int), σ) | _ => none
    | .s r _ n => match look σ.r r with | some (.arr _ _ _ _) => some (true, .v false (.int .i64) (n : Int), σ) | _ => none
    | _ => none
  | some (.map _ _) => match a with
    | .v _ (.map _ _ _) es => some (true, .v false (.int .i64) (es.length : Int), σ)
    | .mp r => match look σ.r r with | some (.map _ _ _ es _) => some (true, .v false (.int .i64) (es.length : Int), σ) | _ => none
    | _ => none
  | _ => none
def elems (σ : St) (u : Ty) : SV → Option (Bool × List (den u))
  | .v l (.sl _ t) xs => match cast? (t := .sl false t) (.sl false u) xs with | some ys => some (l, ys) | none => none
  | .nl => some (false, [])
  | .sf r => match look σ.r r with
    | some (.arr _ l t xs) => match cast? (t := .sl false t) (.sl false u) xs with | some ys => some (l, ys) | none => none
    | _ => none
  | .s r lo n => match look σ.r r with
    | some (.arr _ l t xs) => match cast? (t := .sl false t) (.sl false u) xs with | some ys => some (l, (ys.drop lo).take n) | none => none
    | _ => none
  | .v l .str s => match cast? (t := .sl false (.int .u8)) (.sl false u) (s.map fun c => (c.toNat : Int)) with | some ys => some (false, ys) | none => none
  | _ => none
def zlenB (P : Tab) (t : TypeId) (n : Nat) : Bool := match P t with | some i => Nat.beq i.zero.length n | none => false
def bytesB (P : Tab) (t : TypeId) : Nat := match P t with | some i => i.bytes | none => 0
def opAppend (P : Tab) (dst : Option Nat) (t t2 : TypeId) (u : Ty) (a z : SV) (σ : St) : OpR :=
  match dst, und P t, und P t2 with
  | some d, some (.slice e), some k2 => match (match k2 with | .slice _ | .string => true | _ => false) && szB P e u.size && !(Nat.beq u.size 0) && u.flat && Nat.ble 1 (bytesB P e) && zlenB P e u.size && freeN (σ.b + d) σ.r with
    | true => match (match a with | .nl => true | .sf r | .s r _ _ => (match look σ.r r with | some (.arr false _ _ _) => true | _ => false) | _ => false) with
      | true => match elems σ u a, elems σ u z with
        | some (la, xs), some (lx, ys) =>
          let σ' := match a.root with | some r => σ.kill r | none => σ
          some (decide ((xs.length + ys.length) * bytesB P e ≤ 140737488355328), .sf (σ.b + d), σ'.new (σ.b + d) (.arr false ((la || lx) && !u.plain) u (xs ++ ys)))
        | _, _ => none
      | false => none
    | false => none
  | _, _, _ => none
def opCopy (P : Tab) (t : TypeId) (a z : SV) (σ : St) : OpR :=
  match und P t with
  | some (.slice e) => match a.root with
    | some r => match look σ.r r with
      | some (.arr f l u xs) => match szB P e u.size && !(Nat.beq u.size 0) && u.flat with
        | true => match elems σ u z with
          | some (lx, ys) => match !lx || l with
            | true => match a with
              | .sf _ => some (true, .v false (.int .i64) ((min ys.length xs.length : Nat) : Int), { t := σ.t, c := σ.c, r := upd σ.r r (.arr f l u (ys.take xs.length ++ xs.drop (min ys.length xs.length))), n := σ.n, b := σ.b, k := σ.k })
              | .s _ lo n => some (true, .v false (.int .i64) ((min ys.length n : Nat) : Int), { t := σ.t, c := σ.c, r := upd σ.r r (.arr f l u (xs.take lo ++ ys.take n ++ xs.drop (lo + min ys.length n))), n := σ.n, b := σ.b, k := σ.k })
              | _ => none
            | false => none
          | none => none
        | false => none
      | _ => none
    | none => none
  | _ => none
def opConv (P : Tab) (dst : Option Nat) (s t : TypeId) (a : SV) (σ : St) : OpR :=
  match und P s, und P t with
  | some _, some (.int k) => match a with | .v _ (.int _) n => some (true, .v false (.int k) (k.wrap n), σ) | _ => none
  | some .string, some .string => match a with | .v l .str x => some (true, .v l .str x, σ) | _ => none
  | some .string, some (.slice e) => match a, und P e, dst with
    | .v _ .str x, some (.int .u8), some d => match freeN (σ.b + d) σ.r with
      | true => some (true, .sf (σ.b + d), σ.new (σ.b + d) (.arr false false (.int .u8) (x.map fun c => (c.toNat : Int))))
      | false => none
    | _, _, _ => none
  | some (.slice e), some .string => match und P e with
    | some (.int .u8) => match elems σ (.int .u8) a with
      | some (_, xs) => some (true, .v false .str (xs.map fun n => UInt8.ofNat n.toNat), σ)
      | none => none
    | _ => none
  | some (.slice e), some (.slice _) => match Nat.beq s t, und P e, a with
    | true, some (.int .u8), .sf r => match look σ.r r with
      | some (.arr _ _ u (_ :: _)) => match u8T u with | true => some (true, .sf r, σ) | false => none
      | _ => none
    | _, _, _ => none
  | _, _ => none
def vals (σ : St) (u : Ty) (len : Bool) : List SV → Option (List (den u))
  | [] => some []
  | v :: l => match toV len u v, vals σ u len l with | some a, some r => some (a :: r) | _, _ => none
def zeroC : Ty → List Value
  | .int k => [.int k 0]
  | .bool => [.bool false]
  | .str => [.string ⟨⟨[]⟩⟩]
  | .unit => []
  | .pair a b => zeroC a ++ zeroC b
  | .arr n t => (List.replicate n (zeroC t)).flatten
  | .sl _ _ => [.slice none 0 0]
  | .ptr _ _ => [.pointer none]
  | .ref _ _ => [.pointer none]
  | .map _ _ _ => [.map none]
  | _ => [undef]
def zOk : Ty → Bool
  | .ref _ _ | .map _ _ _ | .hole _ | .raw _ _ | .nils | .nilp => false
  | .pair a b => zOk a && zOk b
  | .arr _ t => zOk t
  | _ => true
def zT : Ty → Ty
  | .pair a b => .pair (zT a) (zT b)
  | .ref _ _ => .hole 999999999
  | .map _ _ _ => .hole 999999999
  | .sl true _ => .nils
  | .ptr true _ => .nilp
  | t => t
def zV : (t : Ty) → den (zT t)
  | .pair a b => (zV a, zV b)
  | .ref _ _ => ()
  | .map _ _ _ => ()
  | .int _ => (0 : Int)
  | .bool => false
  | .str => ([] : List UInt8)
  | .unit => ()
  | .arr n t => List.replicate n (dflt t)
  | .sl true _ => ()
  | .sl false t => ([] : List (den t))
  | .ptr true _ => ()
  | .ptr false t => (none : Option (den t))
  | .hole _ => ()
  | .raw _ n => (List.replicate n undef : List Value)
  | .nils => ()
  | .nilp => ()
def zOkH : Ty → Bool
  | .hole _ | .raw _ _ | .nils | .nilp => false
  | .pair a b => zOkH a && zOkH b
  | .arr _ t => zOk t
  | _ => true
def veq : Value → Value → Bool
  | .int k n, .int j m => kindEq k j && decide (n = m)
  | .bool a, .bool b => a == b
  | .string a, .string b => a.data.toList.isEmpty && b.data.toList.isEmpty
  | .slice none a b, .slice none c d => Nat.beq a c && Nat.beq b d
  | .pointer none, .pointer none => true
  | .map none, .map none => true
  | _, _ => false
def veqL : List Value → List Value → Bool
  | [], [] => true
  | a :: x, b :: y => veq a b && veqL x y
  | _, _ => false
def zeroB (P : Tab) (t : TypeId) (τ : Ty) : Bool :=
  match P t with
  | some i => veqL i.zero (zeroC τ) && zOk τ
  | none => false
def zeroH (P : Tab) (t : TypeId) (τ : Ty) : Bool :=
  match P t with
  | some i => veqL i.zero (zeroC τ) && zOkH τ
  | none => false
def nul (σ : St) : Bool := match look σ.r 999999999 with | none => true | some _ => false
def opAlloc (P : Tab) (dst : Option Nat) (t : TypeId) (τ : Ty) (σ : St) : OpR :=
  match dst with
  | some d => match zeroH P t τ && freeN (σ.b + d) σ.r && (nul σ && !(holeIn (σ.b + d) (zT τ))) with
    | true => some (true, .p (σ.b + d) [], σ.new (σ.b + d) (.box false (zT τ) (zV τ)))
    | false => none
  | none => none
def opBox (dst : Option Nat) (τ : Ty) (a : SV) (σ : St) : OpR :=
  match dst with
  | some d => match τ.flat with
    | true => match sharedV σ a with
      | (.v l τ x, σ) => match τ.flat && freeN (σ.b + d) σ.r with
        | true => some (true, .p (σ.b + d) [], σ.new (σ.b + d) (.box l τ x))
        | false => none
      | _ => none
    | false => match layT σ (anyLen [a]) a with
      | some ⟨u, y⟩ => match freeN (σ.b + d) σ.r && !(holeIn (σ.b + d) u) with
        | true => some (true, .p (σ.b + d) [], σ.new (σ.b + d) (.box (anyLen [a]) u y))
        | false => none
      | none => none
  | none => none
def opMake (P : Tab) (dst : Option Nat) (t : TypeId) (u : Ty) (n c : SV) (σ : St) : OpR :=
  match dst, und P t, n, c with
  | some d, some (.slice e), .v _ (.int _) n, .v _ (.int _) c => match szB P e u.size && !(Nat.beq u.size 0) && zeroB P e u && u.flat && Nat.ble 1 (bytesB P e) && freeN (σ.b + d) σ.r with
    | true => some (makeB n c (bytesB P e), .sf (σ.b + d), σ.new (σ.b + d) (.arr false false u (List.replicate n.toNat (dflt u))))
    | false => none
  | _, _, _, _ => none
def told : Nat → List (Nat × SV) → Option (List SV)
  | _, [] => some []
  | k, (i, v) :: l => match Nat.beq i k with
    | true => match told (k + 1) l with | some r => some (v :: r) | none => none
    | false => none
def opMkSl (P : Tab) (dst : Option Nat) (t : TypeId) (u : Ty) (n : Nat) (ps : List (Nat × SV)) (σ : St) : OpR :=
  match dst, und P t, told 0 ps with
  | some d, some (.slice e), some vs => match szB P e u.size && !(Nat.beq u.size 0) && u.flat && Nat.beq vs.length n && zeroB P e u && Nat.ble (n * u.size) 1000 && freeN (σ.b + d) σ.r with
    | true => match vals σ u (anyLen vs) vs with
      | some xs => some (true, .sf (σ.b + d), σ.new (σ.b + d) (.arr false (anyLen vs) u xs))
      | none => none
    | false => none
  | _, _, _ => none
def fillF (len : Bool) : (t : Ty) → Nat → List (Nat × SV) → Option (den t)
  | .unit, _, [] => some ()
  | .pair a b, k, (i, v) :: l => match Nat.beq i k with
    | true => match toV len a v, fillF len b (k + 1) l with | some x, some r => some (x, r) | _, _ => none
    | false => match fillF len b (k + 1) ((i, v) :: l) with | some r => some (dflt a, r) | none => none
  | .pair a b, k, [] => match fillF len b (k + 1) [] with | some r => some (dflt a, r) | none => none
  | _, _, _ => none
def layF (σ : St) (len : Bool) (a : Ty) (v : SV) : Option TV :=
  match a.flat with
  | true => match toV len a v with | some x => some ⟨a, x⟩ | none => none
  | false => layT σ len v
def fillH (σ : St) (len : Bool) : (t : Ty) → Nat → List (Nat × SV) → Option TV
  | .unit, _, [] => some ⟨.unit, ()⟩
  | .pair a b, k, (i, v) :: l => match Nat.beq i k with
    | true => match layF σ len a v, fillH σ len b (k + 1) l with
      | some ⟨u, x⟩, some ⟨w, r⟩ => match Nat.beq u.size a.size with | true => some ⟨.pair u w, (x, r)⟩ | false => none
      | _, _ => none
    | false => match fillH σ len b (k + 1) ((i, v) :: l) with | some ⟨w, r⟩ => some ⟨.pair (zT a) w, (zV a, r)⟩ | none => none
  | .pair a b, k, [] => match fillH σ len b (k + 1) [] with | some ⟨w, r⟩ => some ⟨.pair (zT a) w, (zV a, r)⟩ | none => none
  | _, _, _ => none
def lie (P : Tab) : Ty → List Field → Nat → Bool
  | .unit, [], _ => true
  | .pair a b, f :: fs, o => Nat.beq f.offset o && szB P f.type a.size && lie P b fs (o + a.size)
  | _, _, _ => false
def sharedL (G : Glob) (g : Option (Nat × Bool)) (σ : St) : List (Nat × Operand) → List (Nat × SV) × St
  | [] => ([], σ)
  | (i, x) :: l => match sharedV σ (σ.arg G g x) with
    | (v, σ') => match sharedL G g σ' l with
      | (l, σ'') => ((i, v) :: l, σ'')
def plainL (G : Glob) (g : Option (Nat × Bool)) (σ : St) : List (Nat × Operand) → List (Nat × SV)
  | [] => []
  | (i, x) :: l => (i, σ.arg G g x) :: plainL G g σ l
def anyLenP : List (Nat × SV) → Bool
  | [] => false
  | (_, .v l _ _) :: r => l || anyLenP r
  | (_, .q l _ _) :: r => l || anyLenP r
  | _ :: r => anyLenP r
def keysOf {α : Type} : List (Nat × α) → List Nat
  | [] => []
  | (k, _) :: l => k :: keysOf l
def insQ {α : Type} (x : Nat × α) : List (Nat × α) → List (Nat × α)
  | [] => [x]
  | y :: l => match Nat.ble x.1 y.1 with
    | true => x :: y :: l
    | false => y :: insQ x l
def sortQ {α : Type} : List (Nat × α) → List (Nat × α)
  | [] => []
  | x :: l => insQ x (sortQ l)
def opBuild (P : Tab) (t : TypeId) (τ : Ty) (G : Glob) (g : Option (Nat × Bool)) (ps : List (Nat × Operand)) (σ : St) : OpR :=
  match und P t with
  | some (.struct fs) => match τ.flat with
    | true => match zeroH P t τ && τ.isAgg && lie P τ fs.toList 0 with
      | true => match sharedL G g σ ps with
        | (ps, σ) => match nodupN (keysOf ps) with
          | true => match fillF (anyLenP ps) τ 0 (sortQ ps) with
            | some x => match zOk τ || Nat.beq ps.length fs.size with
              | true => some (true, .v (anyLenP ps) τ x, σ)
              | false => none
            | none => none
          | false => none
      | false => none
    | false => match zeroH P t τ && τ.isAgg && lie P τ fs.toList 0 && nul σ with
      | true => match fillH σ (anyLenP (plainL G g σ ps)) τ 0 (plainL G g σ ps) with
        | some ⟨u, x⟩ => some (true, .v (anyLenP (plainL G g σ ps)) u x, σ)
        | none => none
      | false => none
  | _ => none
def opNil (a : SV) (σ : St) : OpR :=
  match a with
  | .p r s => some (true, .p r s, σ)
  | .q l τ x => some (true, .q l τ x, σ)
  | .v l (.ptr _ τ) x => some (x.isSome, .q l τ (x.getD (dflt τ)), σ)
  | .v l (.ref _ τ) x => some (true, .q l τ x, σ)
  | .np => some (false, .x, σ)
  | _ => none
def nthS : List SV → Nat → SV
  | [], _ => .x
  | v :: _, 0 => v
  | _ :: l, n + 1 => nthS l n
def opExtract (a : SV) (i : Nat) (σ : St) : OpR :=
  match a with
  | .tup l => match nthS l i with
    | .x => none
    | v => some (true, v, σ)
  | _ => none
def opField (P : Tab) (t : TypeId) (a : SV) (f : Nat) (σ : St) : OpR :=
  match und P t with
  | some (.struct fs) => match nthF fs.toList f with
    | some fd => match a with
      | .v l τ x => match fldGet τ x f with
        | some ⟨o, u, y⟩ => match Nat.beq fd.offset o && fits P fd.type u && τ.isAgg with
          | true => some (true, resSV σ.r l u y, σ)
          | false => none
        | none => none
      | _ => none
    | none => none
  | _ => none
def opMap (dst : Option Nat) (τ : Ty) (σ : St) : OpR :=
  match dst, τ with
  | some d, .map _ k v => match freeN (σ.b + d) σ.r with
    | true => some (true, .mp (σ.b + d), σ.new (σ.b + d) (.map false k v [] none))
    | false => none
  | _, _ => none
def maxL : Int → List SV → IntKind → Option Int
  | a, [], _ => some a
  | a, .v _ (.int j) b :: l, k => match kindEq j k with | true => maxL (if b > a then b else a) l k | false => none
  | _, _, _ => none
def minL : Int → List SV → IntKind → Option Int
  | a, [], _ => some a
  | a, .v _ (.int j) b :: l, k => match kindEq j k with | true => minL (if b < a then b else a) l k | false => none
  | _, _, _ => none
end Go.Proofs.YthlpjdjipchdkaaDoor.E

namespace Go.Proofs.YthlpjdjipchdkaaDoor.E
open Go
set_option linter.unusedSimpArgs false
set_option linter.unusedVariables false
@[reducible] def denL : List Ty → Type
  | [] => Unit
  | t :: l => den t × denL l
def allLt (n : Nat) : List Nat → Bool
  | [] => true
  | k :: l => Nat.blt k n && allLt n l
structure Sig where
  ps : List (Bool × Ty)
  rs : List Ty
def Sig.pt (s : Sig) : List Ty := s.ps.map (·.2)
def ioTy : Ty → Option Ty
  | .ref true t => some t
  | .pair (.ref true t) .unit => some t
  | _ => none
def consO : Option Ty → List Ty → List Ty
  | some t, l => t :: l
  | none, l => l
def headO : (o : Option Ty) → (l : List Ty) → denL (consO o l) → Option TV × denL l
  | some t, _, (a, r) => (some ⟨t, a⟩, r)
  | none, _, r => (none, r)
def outTys : List (Bool × Ty) → List Ty
  | [] => []
  | (_, τ) :: l => consO (ioTy τ) (outTys l)
def Sig.os (s : Sig) : List Ty := outTys s.ps
inductive KV
  | v (slot : Nat) (len : Bool) (τ : Ty)
  | q (slot : Nat) (len : Bool) (τ : Ty)
  | c (slot : Nat) (sv : SV)
def KV.ty : KV → Ty
  | .v _ _ τ => τ
  | .q _ _ τ => τ
  | .c _ _ => .unit
inductive LV
  | t (slot : Nat) (len : Bool) (τ : Ty)
  | r (name : Nat) (len : Bool) (τ τr : Ty)
  | a (name : Nat) (len : Bool) (τ : Ty)
  | m (name : Nat) (len : Bool) (k v : Ty)
  | o (slot name : Nat) (len : Bool) (τ : Ty)
def LV.ty : LV → Ty
  | .t _ _ τ => τ
  | .r _ _ τ _ => τ
  | .a _ _ τ => .sl false τ
  | .m _ _ k v => .map false k v
  | .o _ _ _ τ => .sl false τ
structure Cut where
  ks : List KV
  xs : List LV
def tab {α : Type} : List (Nat × α) → Nat → Option α
  | [], _ => none
  | (k, a) :: l, n => match Nat.beq k n with
    | true => some a
    | false => tab l n
structure Env where
  T : Tab
  F : FuncId → Option Func
  ty : FuncId → TypeId → Option Ty
  sig : FuncId → Sig
  known : FuncId → Bool
  inl : FuncId → Bool
  ann : Nat → FuncId → Nat → Option Cut
  prim : FuncId → Option Nat → List SV → St → OpR
  G : Glob
  cutAt : FuncId → Nat → Bool
  hand : (f : FuncId) → Option (denL (sig f).pt → Option (denL (sig f).rs × denL (sig f).os))
abbrev Env.Fn (E : Env) := (f : FuncId) → denL (E.sig f).pt → Option (denL (E.sig f).rs × denL (E.sig f).os)
abbrev Inl := FuncId → List SV → Nat → (R : Type) → St → (List SV → St → Option R) → Option R
structure Pass where
  σ : St
  owns : List Nat
  boxes : List Nat
  moved : List Nat
  lents : List Nat
def lentV (σ : St) (τ : Ty) (sv : SV) : Option (den τ × List Nat) :=
  match sv with
  | .sf r | .s r _ _ => match τ with
    | .sl _ u => match elems σ u sv with | some (_, xs) => some (xs, [r]) | none => none
    | _ => none
  | .q _ t a => match τ with
    | .ref false u => match coeL u t a with | some y => some (y, []) | none => none
    | .ptr false u => match coeL u t a with | some y => some (some y, []) | none => none
    | _ => none
  | .p r s => match τ with
    | .ref false u => match look σ.r r with
      | some R => match R.get s with
        | some (_, ⟨_, t, a⟩) => match fullT (fullR σ.r true 9) t a with
          | some ⟨t, a, m⟩ => match coeL u t a with | some y => some (y, r :: m) | none => none
          | none => none
        | none => none
      | none => none
    | .ptr false u => match look σ.r r with
      | some R => match R.get s with
        | some (_, ⟨_, t, a⟩) => match fullT (fullR σ.r true 9) t a with
          | some ⟨t, a, m⟩ => match coeL u t a with | some y => some (some y, r :: m) | none => none
          | none => none
        | none => none
      | none => none
    | _ => none
  | .mp r => match fullR σ.r true 9 r with
    | some ⟨.map _ k v, a, m⟩ => match τ with
      | .map _ k' v' => match cast? (t := .map false k v) (.map false k' v') a with | some y => some (y, m) | none => none
      | _ => none
    | _ => none
  | .v l t a => match fullT (fullR σ.r true 9) t a with
    | some ⟨t, a, m⟩ => match coeL τ t a with | some y => some (y, m) | none => none
    | none => none
  | sv => match toV true τ sv with | some y => some (y, []) | none => none
def boxOf : SV → Option Nat
  | .p r [] => some r
  | .v _ (.pair (.hole k) .unit) _ => some k
  | _ => none
def boxFits : Ty → SV → Bool
  | .ref _ _, .p _ [] => true
  | .pair _ _, .v _ (.pair (.hole _) .unit) _ => true
  | _, _ => false
def argV (p : Pass) (len : Bool) (τ : Ty) (sv : SV) : Option (den τ × Pass) :=
  match τ with
  | .ref true u => match sv with
    | .p r [] => match joinR p.σ r with
      | some σ => match look σ.r r with
        | some (.box l t a) => match (!l || len) && solid u, coe u t a with
          | true, some y => some (y, { σ := σ, owns := r :: p.owns, boxes := r :: p.boxes, moved := p.moved, lents := p.lents })
          | _, _ => none
        | _ => none
      | none => none
    | _ => none
  | .pair (.ref true u) .unit => match boxOf sv, boxFits (.pair .unit .unit) sv with
    | some r, true => match joinR p.σ r with
      | some σ => match look σ.r r with
        | some (.box l t a) => match (!l || len) && solid u, coe u t a with
          | true, some y => some ((y, ()), { σ := σ, owns := r :: p.owns, boxes := r :: p.boxes, moved := p.moved, lents := p.lents })
          | _, _ => none
        | _ => none
      | none => none
    | _, _ => none
  | τ => match len with
    | true => match lentV p.σ τ sv with
      | some (a, m) => some (a, { σ := p.σ, owns := p.owns, boxes := p.boxes, moved := p.moved, lents := appN m p.lents })
      | none => none
    | false => match τ.flat with
      | true => match sharedV p.σ sv with
        | (sv, σ) => match toV false τ sv with
          | some y => some (y, { σ := σ, owns := p.owns, boxes := p.boxes, moved := p.moved, lents := p.lents })
          | none => none
      | false => match takeN p.σ τ sv with
        | some (y, m) => some (y, { σ := p.σ, owns := appN m p.owns, boxes := p.boxes, moved := appN m p.moved, lents := p.lents })
        | none => none
def argsV : (ps : List (Bool × Ty)) → List SV → Pass → Option (denL (ps.map (·.2)) × Pass)
  | [], [], p => some ((), p)
  | (len, τ) :: ps, sv :: l, p => match argV p len τ sv with
    | some (a, p) => match argsV ps l p with
      | some (r, p) => some ((a, r), p)
      | none => none
    | none => none
  | _, _, _ => none
def apart : List Nat → List Nat → Bool
  | [], _ => true
  | k :: l, m => !(natMem k l) && !(natMem k m) && apart l m
def there (σ : St) : List Nat → Bool
  | [] => true
  | n :: l => (match look σ.r n with | some _ => true | none => false) && there σ l
def ioFree : List (Bool × Ty) → Bool
  | [] => true
  | (len, τ) :: l => (!len || (match ioTy τ with | some _ => false | none => true)) && ioFree l
def outsV : (ps : List (Bool × Ty)) → List SV → denL (outTys ps) → St → St
  | [], _, _, σ => σ
  | _ :: _, [], _, σ => σ
  | (l, τ) :: ps, sv :: svs, r, σ => match headO (ioTy τ) (outTys ps) r with
    | (some ⟨t, a⟩, r) => outsV ps svs r (match boxOf sv with
      | some n => { t := σ.t, c := σ.c, r := upd σ.r n (.box l t a), n := σ.n, b := σ.b, k := σ.k }
      | none => σ)
    | (none, r) => outsV ps svs r σ
def retK {R : Type} (τ : Ty) (a : den τ) (n : Nat) (σ : St) (K : SV → St → Option R) : Option R :=
  match τ.flat with
  | true => K (.v false τ a) σ
  | false => apartK false τ a n fun A => match A with
    | ⟨u, y, m, n'⟩ => match calmT u && (Nat.ble n' (n + 10000) && solid τ) with
      | true => match addRoots m σ with
        | some σ' => K (resSV σ'.r false u y) σ'
        | none => none
      | false => none
def retsK {R : Type} : (rs : List Ty) → denL rs → Nat → St → (List SV → St → Option R) → Option R
  | [], _, _, σ, K => K [] σ
  | τ :: rs, (a, r), n, σ, K => retK τ a n σ fun sv σ => retsK rs r (n + 10000) σ fun l σ => K (sv :: l) σ
def tupV : List SV → SV
  | [sv] => sv
  | l => .tup l
def okSV (ok : Bool) (sv : SV) (found : Bool) : SV := match ok with
  | true => .tup [sv, .v false .bool found]
  | false => sv
def zeroIs (P : Tab) (t : TypeId) (z : List Value) : Bool := match P t with | some i => veqL i.zero z | none => false
def mapOk (P : Tab) (t : TypeId) (k v : Ty) : Bool :=
  match und P t with
  | some (.map kt vt) => eqTy k && eqOk P 20 kt k && aggB P kt k.isAgg && fits P vt v && (match v with
    | .ref _ _ => zeroIs P vt [.pointer none]
    | v => zeroB P vt v)
  | _ => false
def setRoot (σ : St) (r : Nat) (R : Root) : St := { t := σ.t, c := σ.c, r := upd σ.r r R, n := σ.n, b := σ.b, k := σ.k }
def look0K {R : Type} (name r : Nat) (ok l : Bool) (k v : Ty) (es : List (den k × den v)) (y : den k) (σ : St) (K : SV → St → Option R) : Option R :=
  match v, es with
  | .sl true u, es => match freeN name σ.r && !(Nat.beq name r) with
    | true => K (okSV ok (.sf name) (mfind (denEq k) es y).isSome) (setRoot (σ.new name (.arr false l u ((mfind (denEq k) es y).getD []))) r (.map l k (.sl true u) es (some (y, name))))
    | false => none
  | .ref true u, es => br (mfind (denEq k) es y).isSome
      (match freeN name σ.r && !(Nat.beq name r) && solid u with
      | true => K (okSV ok (.p name []) true) (setRoot (σ.new name (.box l u ((mfind (denEq k) es y).getD (dflt u)))) r (.map l k (.ref true u) es (some (y, name))))
      | false => none)
      (K (okSV ok .np false) σ)
  | .ref false _, _ => none
  | v, es => match v.flat with
    | true => K (okSV ok (mkv l v ((mfind (denEq k) es y).getD (dflt v))) (mfind (denEq k) es y).isSome) σ
    | false => none
def lookK {R : Type} (P : Tab) (dst : Option Nat) (t : TypeId) (ok : Bool) (a y : SV) (σ : St) (K : SV → St → Option R) : Option R :=
  match a with
  | .v l (.map _ k v) es => match toV true k y, mapOk P t k v with
    | some y, true => match v, es with
      | .ref _ u, es => br (mfind (denEq k) es y).isSome (K (okSV ok (.q l u ((mfind (denEq k) es y).getD (dflt u))) true) σ) (K (okSV ok .np false) σ)
      | v, es => match (v.flat || l) && solid v with
        | true => K (okSV ok (mkv l v ((mfind (denEq k) es y).getD (dflt v))) (mfind (denEq k) es y).isSome) σ
        | false => none
    | _, _ => none
  | .mp r => match look σ.r r, dst with
    | some (.map l k v es z), some d => match toV true k y, mapOk P t k v with
      | some y, true => match z with
        | none => look0K (σ.b + d) r ok l k v es y σ K
        | some (y', j) => br (denEq k y y' && (mfind (denEq k) es y).isSome)
          (match look σ.r j with
          | some _ => K (okSV ok (holeSV σ.r j) true) σ
          | none => none)
          (match joinR σ r with
          | some σ => match look σ.r r with
            | some (.map l k' v' es none) => match cast? (t := k) k' y, mapOk P t k' v' with
              | some y, true => look0K (σ.b + d) r ok l k' v' es y σ K
              | _, _ => none
            | _ => none
          | none => none)
      | _, _ => none
    | _, _ => none
  | _ => none
def updMK {R : Type} (P : Tab) (t : TypeId) (a y v : SV) (σ : St) (K : St → Option R) : Option R :=
  match a with
  | .mp r => match look σ.r r with
    | some (.map _ _ vt0 _ _) => match vt0.flat with
      | true => match sharedV σ v with
        | (v, σ) => match look σ.r r with
          | some (.map l k vt es none) => match toV true k y, toV l vt v, mapOk P t k vt && vt.flat with
            | some y, some x, true => K (setRoot σ r (.map l k vt (mput (denEq k) es y x) none))
            | _, _, _ => none
          | _ => none
      | false => match takeV σ vt0 v with
        | some (x, σ) => match look σ.r r with
          | some (.map false k vt es z) => match toV true k y, cast? (t := vt0) vt x, mapOk P t k vt with
            | some y, some x, true => match z with
              | none => K (setRoot σ r (.map false k vt (mput (denEq k) es y x) none))
              | some (y', j) => match look σ.r j with
                | none => br (denEq k y y') (K (setRoot σ r (.map false k vt (mput (denEq k) es y x) none))) none
                | some _ => match joinR σ r with
                  | some σ => match look σ.r r with
                    | some (.map false k2 v2 es2 none) => match cast? (t := k) k2 y, cast? (t := vt) v2 x with
                      | some y, some x => K (setRoot σ r (.map false k2 v2 (mput (denEq k2) es2 y x) none))
                      | _, _ => none
                    | _ => none
                  | none => none
            | _, _, _ => none
          | _ => none
        | none => none
    | _ => none
  | _ => none
def delMK {R : Type} (P : Tab) (t : TypeId) (a y : SV) (σ : St) (K : St → Option R) : Option R :=
  match a with
  | .mp r => match look σ.r r with
    | some (.map l k v es z) => match toV true k y, mapOk P t k v with
      | some y, true => match z with
        | none => K (setRoot σ r (.map l k v (mdel (denEq k) es y) none))
        | some (y', j) => match look σ.r j with
          | none => br (denEq k y y') (K (setRoot σ r (.map l k v (mdel (denEq k) es y) none))) none
          | some _ => match joinR σ r with
            | some σ => match look σ.r r with
              | some (.map l k2 v2 es2 none) => match cast? (t := k) k2 y, mapOk P t k2 v2 with
                | some y, true => K (setRoot σ r (.map l k2 v2 (mdel (denEq k2) es2 y) none))
                | _, _ => none
              | _ => none
            | none => none
      | _, _ => none
    | _ => none
  | _ => none
def SV.low : SV → SV
  | .fn _ _ _ => .x
  | .tup _ => .x
  | sv => sv
def opD (E : Env) (f : FuncId) (g : Option (Nat × Bool)) (o : Oper) (σ : St) : OpR :=
  let ρ := σ.arg E.G g
  match o.op with
  | .move x | .assign x => some (true, ρ x, σ)
  | .pick c a b =>
    match c with
    | .tmp d => opPick (ρ c) (match ρ a with | .x => σ.arg E.G (some (d, true)) a | v => v) (match ρ b with | .x => σ.arg E.G (some (d, false)) b | v => v) σ
    | c => opPick (ρ c) (ρ a) (ρ b) σ
  | .alloc t => match E.ty f t with | some τ => opAlloc E.T o.dst t τ σ | none => none
  | .box t x => match E.ty f t with | some τ => opBox o.dst τ (ρ x) σ | none => none
  | .build t ps => match E.ty f t with | some τ => opBuild E.T t τ E.G g ps.toList σ | none => none
  | .buildSlice t n ps => match und E.T t with
    | some (.slice e) => match E.ty f e with | some u => (match sharedL E.G g σ ps.toList with | (qs, σ) => opMkSl E.T o.dst t u n qs σ) | none => none
    | _ => none
  | .load t a => opLoad E.T t (ρ a) σ
  | .store t a v => opStore E.T t (ρ a) (ρ v) σ
  | .nilCheck x => opNil (ρ x) σ
  | .binOp op t x y _ => opBin E.T op t (ρ x) (ρ y) σ
  | .unOp op _ x => opUn op (ρ x) σ
  | .convert s t x => opConv E.T o.dst s t (ρ x) σ
  | .makeSlice t n c => match und E.T t with
    | some (.slice e) => match E.ty f e with | some u => opMake E.T o.dst t u (ρ n) (ρ c) σ | none => none
    | _ => none
  | .makeMap t none => match E.ty f t with | some τ => opMap o.dst τ σ | none => none
  | .makeFunc (.func f) first caps => some (true, .fn f ((first.toList.map ρ).map SV.low) ((caps.toList.map ρ).map SV.low), σ)
  | .slice t x lo hi mx => match isZero mx with
    | true => opSlice0 E.T t (ρ x) (lo.map ρ) (hi.map ρ) (mx.map ρ) σ
    | false => opSlice E.T t (ρ x) (lo.map ρ) (hi.map ρ) (mx.map ρ) σ
  | .fieldAddr t x f => opFld E.T t (ρ x) f σ
  | .field t x f => opField E.T t (ρ x) f σ
  | .indexAddr t x i => opIdxA E.T t (ρ x) (ρ i) σ
  | .index t x i => opIdx E.T t (ρ x) (ρ i) σ
  | .extract x i => opExtract (ρ x) i σ
  | .call c => match c.callee with
    | .builtin .len => match c.args.toList, c.argTypes.toList with
      | [x], [t] => opLen E.T t (ρ x) σ
      | _, _ => none
    | .builtin .append => match c.args.toList, c.argTypes.toList with
      | [x, y], [t, t2] => match und E.T t with
        | some (.slice e) => match E.ty f e with | some u => opAppend E.T o.dst t t2 u (ρ x) (ρ y) σ | none => none
        | _ => none
      | _, _ => none
    | .builtin .copy => match c.args.toList, c.argTypes.toList with
      | [x, y], [t, _] => opCopy E.T t (ρ x) (ρ y) σ
      | _, _ => none
    | .builtin .max => match c.args.toList.map ρ with
      | .v _ (.int k) a :: l => match maxL a l k with | some n => some (true, .v false (.int k) n, σ) | none => none
      | _ => none
    | .builtin .min => match c.args.toList.map ρ with
      | .v _ (.int k) a :: l => match minL a l k with | some n => some (true, .v false (.int k) n, σ) | none => none
      | _ => none
    | _ => none
  | _ => none
def total (o : Oper) : Bool :=
  match o.op with
  | .move _ | .pick _ _ _ | .unOp _ _ _ | .fieldAddr _ _ _ | .load _ _ | .extract _ _ | .field _ _ _ => true
  | .binOp op _ _ _ _ => match op with | .quo | .rem | .shl | .shr => false | _ => true
  | .call c => match c.callee with | .builtin .len => true | _ => false
  | _ => false
def knowC (d : Nat) (b : Bool) : List (Nat × Nat × Bool × SV) → List (Nat × SV)
  | [] => []
  | (k, e, w, v) :: l => match Nat.beq e d && boolEq w b with
    | true => (k, v) :: knowC d b l
    | false => knowC d b l
def keepC (d : Nat) (b : Bool) : List (Nat × Nat × Bool × SV) → List (Nat × Nat × Bool × SV)
  | [] => []
  | (k, e, w, v) :: l => match Nat.beq e d && boolEq w b with
    | true => keepC d b l
    | false => (k, e, w, v) :: keepC d b l
def appT : List (Nat × SV) → List (Nat × SV) → List (Nat × SV)
  | [], l => l
  | a :: r, l => a :: appT r l
def know (d : Nat) (b : Bool) (σ : St) : St :=
  { t := (d, .v false .bool b) :: appT (knowC d b σ.c) σ.t, c := keepC d b σ.c, r := σ.r, n := σ.n, b := σ.b, k := σ.k }
def appS : List SV → List SV → List SV
  | [], l => l
  | a :: r, l => a :: appS r l
def calleeOf (G : Glob) (σ : St) (g : Option (Nat × Bool)) (o : Oper) : Option (FuncId × List SV) :=
  match o.op with
  | .call c => match c.callee with
    | .value x => match σ.arg G g x with
      | .fn f first caps => some (f, appS first (appS (c.args.toList.map (σ.arg G g)) caps))
      | _ => none
    | _ => none
  | _ => none
noncomputable def both {R : Type} (A B : Option R) : Option R := @ite _ (A = B) (Classical.propDecidable _) A none
noncomputable def bthN {R : Type} (n : Nat) (A B : Option R) : Option R :=
  match n with
  | 0 => both A B
  | _ + 1 => B
def nilTest (T : Tab) (o : Oper) : Option (Operand × Bool) :=
  match o.op with
  | .binOp op t x (.const (.slice none 0 0)) _ => match und T t, op with
    | some (.slice _), .eql => some (x, true)
    | some (.slice _), .neq => some (x, false)
    | _, _ => none
  | _ => none
noncomputable def nilK {R : Type} (σ : St) (sv : SV) (A B : Option R) : Option R :=
  match sv with
  | .v _ (.sl _ _) xs => bthN xs.length A B
  | .nl => both A B
  | .sf r => match look σ.r r with | some (.arr _ _ _ xs) => bthN xs.length A B | _ => none
  | .s _ _ n => bthN n A B
  | _ => none
def opK {R : Type} (E : Env) (f : FuncId) (g : Option (Nat × Bool)) (o : Oper) (σ : St) (K : St → Option R) : Option R :=
  match o.op with
  | .load t a => loadK E.T o.dst t (σ.arg E.G g a) σ fun sv σ => putK σ o.dst sv K
  | .lookup t a y ok => lookK E.T o.dst t ok (σ.arg E.G g a) (σ.arg E.G g y) σ fun sv σ => putK σ o.dst sv K
  | .mapUpdate t a y v | .insert t a y v => updMK E.T t (σ.arg E.G g a) (σ.arg E.G g y) (σ.arg E.G g v) σ fun σ => putK σ o.dst .x K
  | .call c => match c.callee with
    | .builtin .delete => match c.args.toList, c.argTypes.toList with
      | [a, y], t :: _ => delMK E.T t (σ.arg E.G g a) (σ.arg E.G g y) σ fun σ => putK σ o.dst .x K
      | _, _ => none
    | _ => none
  | _ => none
noncomputable def doOp {R : Type} (E : Env) (fn : E.Fn) (inl : Inl) (f : FuncId) (g : Option (Nat × Bool)) (o : Oper) (σ : St) (K : St → Option R) : Option R :=
  match calleeOf E.G σ g o with
  | some (h, svs) => match E.known h with
    | true => match argsV (E.sig h).ps svs ⟨σ, [], [], [], []⟩ with
      | some (a, p) => match (apart p.owns p.lents && apart p.moved p.boxes) && ((ioFree (E.sig h).ps || nilL p.lents) && (there p.σ p.owns && there p.σ p.lents)) with
        | true => bd (fn h a) fun r =>
          retsK (E.sig h).rs r.1 (σ.b + o.dst.getD 9000) (outsV (E.sig h).ps svs r.2 (killL p.moved p.σ)) fun l σ' => putK σ' o.dst (tupV l) K
        | false => none
      | none => none
    | false => match E.inl h with
      | true => inl h svs (o.dst.getD 997) R σ fun l σ' => putK σ' o.dst (tupV l) K
      | false => match E.prim h o.dst svs σ with
        | some (c, sv, σ') => br c (putK σ' o.dst sv K) none
        | none => none
  | none => match nilTest E.T o with
    | some (x, u) => nilK σ (σ.arg E.G g x) (putK σ o.dst (.v false .bool u) K) (putK σ o.dst (.v false .bool (!u)) K)
    | none => match opD E f g o σ with
      | some (c, sv, σ') => br c (putK σ' o.dst sv K) none
      | none => opK E f g o σ K
def hangs : List (Nat × Nat × Bool × SV) → Nat → Option (Nat × Bool × SV)
  | [], _ => none
  | (k, e, w, v) :: l, n => match Nat.beq k n with
    | true => some (e, w, v)
    | false => hangs l n
def test {R : Type} : Nat → Nat → St → (Option Bool → St → Option R) → Option R
  | 0, _, _, _ => none
  | n + 1, d, σ, K => match find σ.t d with
    | .v _ .bool g => br g (K (some true) (know d true σ)) (K (some false) (know d false σ))
    | .x => match hangs σ.c d with
      | some (e, w, .v _ .bool g) => test n e σ fun b σ' => match b with
        | some b => match boolEq b w with
          | true => br g (K (some true) (know d true σ')) (K (some false) (know d false σ'))
          | false => K none σ'
        | none => K none σ'
      | _ => none
    | _ => none
def skipK {R : Type} (σ : St) (dst : Option Nat) (d : Nat) (w : Bool) (K : St → Option R) : Option R :=
  match dst with
  | none => K σ
  | some e => match Nat.blt e σ.n && !(Nat.beq e d) with
    | true => K (σ.putC e d w (.v false .bool false))
    | false => none
def nthO : List Oper → Nat → Option Oper
  | [], _ => none
  | o :: _, 0 => some o
  | _ :: l, n + 1 => nthO l n
def dstOf (all : List Oper) (j : Nat) : Option Nat := match nthO all j with | some o => o.dst | none => none
noncomputable def runOps {R : Type} (E : Env) (fn : E.Fn) (inl : Inl) (f : FuncId) (all : List Oper) : List Oper → St → (St → Option R) → Option R
  | [], σ, K => K σ
  | o :: l, σ, K => match o.guard with
    | none => doOp E fn inl f none o σ fun σ => runOps E fn inl f all l σ K
    | some (j, w) => match dstOf all j with
      | some d => match total o with
        | true => match opD E f (some (d, w)) o σ with
          | some (c, sv, _) => br c (match o.dst with
            | some e => match Nat.blt e σ.n && !(Nat.beq e d) with | true => sv.force fun sv => runOps E fn inl f all l (σ.putC e d w sv) K | false => none
            | none => none) none
          | none => test 12 d σ fun b σ' => match b with
            | some b => match boolEq b w with
              | true => doOp E fn inl f none o σ' fun σ => runOps E fn inl f all l σ K
              | false => skipK σ' o.dst d w fun σ => runOps E fn inl f all l σ K
            | none => skipK σ' o.dst d w fun σ => runOps E fn inl f all l σ K
        | false => test 12 d σ fun b σ' => match b with
          | some b => match boolEq b w with
            | true => doOp E fn inl f none o σ' fun σ => runOps E fn inl f all l σ K
            | false => skipK σ' o.dst d w fun σ => runOps E fn inl f all l σ K
          | none => skipK σ' o.dst d w fun σ => runOps E fn inl f all l σ K
      | none => none
def opSlots : List Operand → List Nat
  | [] => []
  | .tmp t :: l => t :: opSlots l
  | _ :: l => opSlots l
def quietO (T : Tab) (o : Oper) : Bool :=
  match o.op with
  | .move _ | .assign _ | .pick _ _ _ | .unOp _ _ _ | .binOp _ _ _ _ _ | .fieldAddr _ _ _ | .load _ _ | .extract _ _ | .field _ _ _ | .nilCheck _ | .index _ _ _ | .indexAddr _ _ _ | .slice _ _ _ _ _ | .lookup _ _ _ _ | .makeFunc _ _ _ => true
  | .convert _ t _ => match und T t with | some (.int _) => true | _ => false
  | .call c => match c.callee with | .builtin .len => true | .builtin .min => true | .builtin .max => true | _ => false
  | _ => false
def szNZ (T : Tab) (t : TypeId) : Bool := match T t with | some i => !(Nat.beq i.size 0) | none => false
def fldNZ (T : Tab) (t : TypeId) (f : Nat) : Bool :=
  match und T t with
  | some (.struct fs) => match nthF fs.toList f with
    | some fd => szNZ T fd.type
    | none => false
  | _ => false
def steadyB (E : Env) (σ : St) (o : Oper) : Bool :=
  match o.op with
  | .move _ | .assign _ | .pick _ _ _ | .unOp _ _ _ | .extract _ _ | .field _ _ _ | .indexAddr _ _ _ | .index _ _ _ | .makeFunc _ _ _ => true
  | .nilCheck x => match σ.arg E.G none x with | .p _ _ => true | .q _ _ _ => true | _ => false
  | .fieldAddr t _ f => fldNZ E.T t f
  | .binOp _ _ x y _ => match σ.arg E.G none x, σ.arg E.G none y with
    | .v _ (.int _) _, .v _ (.int _) _ => true
    | .v _ .str _, .v _ .str _ => true
    | _, _ => false
  | .convert _ t x => match und E.T t, σ.arg E.G none x with | some (.int _), .v _ (.int _) _ => true | _, _ => false
  | .call c => match c.callee, c.args.toList with
    | .builtin .len, [x] => match σ.arg E.G none x with | .v _ .str _ => true | .v _ (.sl _ _) _ => true | .sf _ => true | .s _ _ _ => true | .nl => true | _ => false
    | _, _ => false
  | _ => false
def tb (m n : Nat) : Bool := Nat.beq (Nat.land (Nat.shiftRight m n) 1) 1
def setB (m n : Nat) : Nat := Nat.lor m (Nat.shiftLeft 1 n)
def forceN {R : Type} (n : Nat) (K : Nat → R) : R := match n with
  | 0 => K 0
  | n + 1 => K (n + 1)
def edgesIn (m : Nat) : List Edge → Bool
  | [] => true
  | e :: l => (!(Region.binds .any e) || tb m e.on) && edgesIn m l
def readyM (m : Nat) : List Oper → Nat → List Nat
  | [], _ => []
  | o :: l, k => match !(tb m k) && edgesIn m o.after.toList with
    | true => k :: readyM m l (k + 1)
    | false => readyM m l (k + 1)
def slotsAll (all : List Oper) (o : Oper) : List Nat :=
  match o.guard with
  | some (j, _) => match dstOf all j with | some d => d :: opSlots o.op.operands.toList | none => opSlots o.op.operands.toList
  | none => opSlots o.op.operands.toList
def eqO (d : Nat) : Option Nat → Bool
  | some e => Nat.beq d e
  | none => false
def apartO (all : List Oper) (x y : Oper) : Bool :=
  (match x.dst with
   | some d => !(natMem d (slotsAll all y)) && !(eqO d y.dst)
   | none => true) &&
  (match y.dst with
   | some d => !(natMem d (slotsAll all x))
   | none => true)
def hasEdge (i : Nat) : List Edge → Bool
  | [] => false
  | e :: l => (Region.binds .any e && Nat.beq e.on i) || hasEdge i l
def freeM (all : List Oper) (m i : Nat) (o : Oper) : List Oper → Nat → Bool
  | [], _ => true
  | y :: l, k => (Nat.beq k i || tb m k || hasEdge i y.after.toList || apartO all o y) && freeM all m i o l (k + 1)
def selO (o : Oper) : Bool := match o.op with | .select _ _ => true | _ => false
def noSel : List Oper → Bool
  | [] => true
  | o :: l => !(selO o) && noSel l
noncomputable def quietE {R : Type} (E : Env) (f : FuncId) (o : Oper) (σ : St) (K : St → Option R) : Option R :=
  match steadyB E σ o with
  | true => match opD E f none o σ with
    | some (c, sv, _) => br c (putK σ o.dst sv K) none
    | none => none
  | false => none
def stepG {R : Type} (all : List Oper) (o : Oper) (σ : St) (run : St → (St → Option R) → Option R) (K : St → Option R) : Option R :=
  match o.guard with
  | none => run σ K
  | some (j, w) => match dstOf all j with
    | some d => match find σ.t d with
      | .v _ .bool b => br (boolEq b w) (run { t := (d, .v false .bool w) :: σ.t, c := σ.c, r := σ.r, n := σ.n, b := σ.b, k := σ.k } K)
          (skipK { t := (d, .v false .bool (!w)) :: σ.t, c := σ.c, r := σ.r, n := σ.n, b := σ.b, k := σ.k } o.dst d w K)
      | .x => test 12 d σ fun b σ' => match b with
        | none => skipK σ' o.dst d w K
        | some _ => none
      | _ => none
    | none => none
def firstM (E : Env) (all : List Oper) (σ : St) (m : Nat) : List Nat → Option Nat
  | [] => none
  | i :: l => match nthO all i with
    | some o => match quietO E.T o && steadyB E σ o && freeM all m i o all 0 with
      | true => some i
      | false => firstM E all σ m l
    | none => firstM E all σ m l
def allP (g : TypeId → Bool) : List Field → Bool
  | [] => true
  | f :: l => g f.type && allP g l
def plainK (T : Tab) : Nat → TypeId → Bool
  | 0, _ => false
  | n + 1, t => match und T t with
    | some .string => true
    | some .bool => true
    | some (.int _) => true
    | some (.struct fs) => allP (plainK T n) fs.toList
    | _ => false
def roB (T : Tab) (o : Oper) : Bool :=
  match o.op with
  | .move _ | .assign _ | .pick _ _ _ | .unOp _ _ _ | .extract _ _ | .field _ _ _ | .indexAddr _ _ _ | .index _ _ _ | .makeFunc _ _ _ | .load _ _ => true
  | .fieldAddr t _ f => fldNZ T t f
  | .lookup t _ _ _ => match und T t with
    | some (.map k _) => plainK T 20 k
    | _ => false
  | .build _ _ | .alloc _ | .box _ _ | .buildSlice _ _ _ | .slice _ _ _ _ _ => true
  | .call c => match c.callee with | .builtin .max => true | .builtin .min => true | _ => false
  | _ => false
def candO (T : Tab) (o : Oper) : Bool := match o.op with
  | .load _ _ => true
  | .lookup t _ _ _ => match und T t with
    | some (.map k _) => plainK T 20 k
    | _ => false
  | _ => false
def edgeTo (B : Nat) : List Edge → Bool
  | [] => false
  | e :: l => (Region.binds .any e && tb B e.on) || edgeTo B l
def blkM {R : Type} (m : Nat) : List Oper → Nat → Nat → (Nat → R) → R
  | [], _, B, K => K B
  | y :: l, k, B, K => match !(tb m k) && edgeTo B y.after.toList with
    | true => forceN (setB B k) fun B => blkM m l (k + 1) B K
    | false => blkM m l (k + 1) B K
def stillF (T : Tab) (all : List Oper) (m B i : Nat) (o : Oper) : List Oper → Nat → Bool
  | [], _ => true
  | y :: l, k => (Nat.beq k i || (match tb B k with
    | true => !(tb m k) && edgeTo B y.after.toList
    | false => tb m k || (apartO all o y && roB T y))) && stillF T all m B i o l (k + 1)
def stillM (T : Tab) (all : List Oper) (m : Nat) : List Nat → Option Nat
  | [] => none
  | i :: l => match nthO all i with
    | some o => match candO T o && blkM m all 0 (setB 0 i) fun B => stillF T all m B i o all 0 with
      | true => some i
      | false => stillM T all m l
    | none => stillM T all m l
noncomputable def stillE {R : Type} (E : Env) (f : FuncId) (o : Oper) (σ : St) (K : St → Option R) : Option R :=
  match opD E f none o σ with
  | some (c, sv, _) => br c (putK σ o.dst sv K) none
  | none => match o.op with
    | .load t a => loadK E.T o.dst t (σ.arg E.G none a) σ fun sv σ => putK σ o.dst sv K
    | .lookup t a y ok => lookK E.T o.dst t ok (σ.arg E.G none a) (σ.arg E.G none y) σ fun sv σ => putK σ o.dst sv K
    | _ => none
noncomputable def allM {R : Type} (run : Nat → Option R) : List Nat → Option R
  | [] => none
  | i :: l => match l with
    | [] => run i
    | _ :: _ => both (run i) (allM run l)
noncomputable def runM {R : Type} (E : Env) (fn : E.Fn) (inl : Inl) (f : FuncId) (all : List Oper) : Nat → Nat → St → (St → Option R) → Option R
  | n, m, σ, K => match readyM m all 0 with
    | [] => K σ
    | i :: l => match n with
      | 0 => none
      | n + 1 => match firstM E all σ m (i :: l) with
        | some i => match nthO all i with
          | some o => stepG all o σ (fun σ K => quietE E f o σ K) fun σ => forceN (setB m i) fun m => runM E fn inl f all n m σ K
          | none => none
        | none => match stillM E.T all m (i :: l) with
        | some i => match nthO all i with
          | some o => stepG all o σ (fun σ K => stillE E f o σ K) fun σ => forceN (setB m i) fun m => runM E fn inl f all n m σ K
          | none => none
        | none => allM (fun i => match nthO all i with
          | some o => stepG all o σ (fun σ K => doOp E fn inl f none o σ K) fun σ => forceN (setB m i) fun m => runM E fn inl f all n m σ K
          | none => none) (i :: l)
noncomputable def runDraw {R : Type} (E : Env) (fn : E.Fn) (inl : Inl) (f : FuncId) (all : List Oper) (σ : St) (K : St → Option R) : Option R :=
  match noSel all with
  | true => runM E fn inl f all all.length 0 { t := σ.t, c := [], r := σ.r, n := σ.n, b := σ.b, k := σ.k } K
  | false => none
end Go.Proofs.YthlpjdjipchdkaaDoor.E

namespace Go.Proofs.YthlpjdjipchdkaaDoor.E
open Go
set_option linter.unusedSimpArgs false
set_option linter.unusedVariables false
def dsts : Code → List Nat
  | .region _ ops _ => ops.toList.filterMap (·.dst)
  | .seq a b => dsts a ++ dsts b
  | .cond _ a b => dsts a ++ dsts b
  | .block _ c => dsts c
  | .loop c => dsts c
  | _ => []
def ktys : List KV → List Ty
  | [] => []
  | k :: l => k.ty :: ktys l
def xtys : List LV → List Ty
  | [] => []
  | x :: l => x.ty :: xtys l
def btys : List LV → List Ty
  | [] => []
  | .r _ _ _ τr :: l => τr :: btys l
  | .t _ _ _ :: l => btys l
  | .a _ _ _ :: l => btys l
  | .m _ _ _ _ :: l => btys l
  | .o _ _ _ _ :: l => btys l
def kslots : (l : List KV) → denL (ktys l) → List (Nat × SV)
  | [], _ => []
  | .v s len τ :: l, (a, r) => (s, .v len τ a) :: kslots l r
  | .q s len τ :: l, (a, r) => (s, .q len τ a) :: kslots l r
  | .c s sv :: l, (_, r) => (s, sv) :: kslots l r
def xroots : (l : List LV) → denL (xtys l) → List (Nat × Root)
  | [], _ => []
  | .r n len τ _ :: l, (a, r) => (n, .box len τ a) :: xroots l r
  | .a n len τ :: l, (a, r) => (n, .arr false len τ a) :: xroots l r
  | .m n len k v :: l, (a, r) => (n, .map len k v a none) :: xroots l r
  | .o _ n len τ :: l, (a, r) => (n, .arr false len τ a) :: xroots l r
  | .t _ _ _ :: l, (_, r) => xroots l r
def xslots : (l : List LV) → denL (xtys l) → List (Nat × SV)
  | [], _ => []
  | .t s len τ :: l, (a, r) => (s, .v len τ a) :: xslots l r
  | .o s n _ _ :: l, (_, r) => (s, .sf n) :: xslots l r
  | .r _ _ _ _ :: l, (_, r) => xslots l r
  | .a _ _ _ :: l, (_, r) => xslots l r
  | .m _ _ _ _ :: l, (_, r) => xslots l r
def fill (n b : Nat) (ks : List KV) (kv : denL (ktys ks)) (xs : List LV) (xv : denL (xtys xs)) : St :=
  { t := appT (xslots xs xv) (kslots ks kv), c := [], r := xroots xs xv, n := n, b := b, k := [] }
def extract (σ : St) : (xs : List LV) → Option (denL (xtys xs))
  | [] => some ()
  | .t s len τ :: l => match toV len τ (find σ.t s), extract σ l with | some a, some r => some (a, r) | _, _ => none
  | .r n len τ _ :: l => match look σ.r n with
    | some (.box len' t a) => match (!len' || len), coe τ t a, extract σ l with | true, some a, some r => some (a, r) | _, _, _ => none
    | _ => none
  | .a n len τ :: l => match look σ.r n with
    | some (.arr _ len' t a) => match (!len' || len), cast? (t := .sl false t) (.sl false τ) a, extract σ l with | true, some a, some r => some (a, r) | _, _, _ => none
    | _ => none
  | .m n len k v :: l => match look σ.r n with
    | some (.map len' k' v' a none) => match (!len' || len), cast? (t := .map false k' v') (.map false k v) a, extract σ l with | true, some a, some r => some (a, r) | _, _, _ => none
    | _ => none
  | .o s _ len τ :: l => match find σ.t s with
    | .sf n => match look σ.r n with
      | some (.arr _ len' t a) => match (!len' || len), cast? (t := .sl false t) (.sl false τ) a, extract σ l with | true, some a, some r => some (a, r) | _, _, _ => none
      | _ => none
    | .nl => match extract σ l with | some r => some ([], r) | none => none
    | _ => none
def extractB (σ : St) : (xs : List LV) → Option (denL (btys xs))
  | [] => some ()
  | .r n len _ τ :: l => match look σ.r n with
    | some (.box len' t a) => match (!len' || len), coe τ t a, extractB σ l with | true, some a, some r => some (a, r) | _, _, _ => none
    | _ => none
  | .t _ _ _ :: l => extractB σ l
  | .a _ _ _ :: l => extractB σ l
  | .m _ _ _ _ :: l => extractB σ l
  | .o _ _ _ _ :: l => extractB σ l
def named0 : SV → Bool
  | .p _ [] => true
  | .sf _ => true
  | .mp _ => true
  | .v false (.pair (.hole _) .unit) _ => true
  | _ => false
def named0L : List SV → Bool
  | [] => true
  | a :: l => named0 a && named0L l
def named : SV → Bool
  | .fn _ a b => named0L a && named0L b
  | sv => named0 sv
def svSame0 : SV → SV → Bool
  | .p r [], .p k [] => Nat.beq r k
  | .sf r, .sf k => Nat.beq r k
  | .mp r, .mp k => Nat.beq r k
  | .v false (.pair (.hole r) .unit) _, .v false (.pair (.hole k) .unit) _ => Nat.beq r k
  | _, _ => false
def svSameL : List SV → List SV → Bool
  | [], [] => true
  | a :: l, b :: m => svSame0 a b && svSameL l m
  | _, _ => false
def svSame : SV → SV → Bool
  | .fn f a b, .fn g c d => Nat.beq f g && svSameL a c && svSameL b d
  | a, b => svSame0 a b
def extractK (σ : St) : (ks : List KV) → Option (denL (ktys ks))
  | [] => some ()
  | .v s len τ :: l => match (match len with | true => (match lentV σ τ (find σ.t s) with | some (a, _) => some a | none => none) | false => toV false τ (find σ.t s)), extractK σ l with
    | some a, some r => some (a, r)
    | _, _ => none
  | .q s len τ :: l => match (match len with
      | true => (match lentV σ (.ref false τ) (find σ.t s) with | some (a, _) => some a | none => none)
      | false => match find σ.t s with | .q false t a => cast? (t := t) τ a | _ => none), extractK σ l with
    | some a, some r => some (a, r)
    | _, _ => none
  | .c s sv :: l => match svSame (find σ.t s) sv, extractK σ l with
    | true, some r => some ((), r)
    | _, _ => none
def takenNames (σ : St) : List LV → List Nat
  | [] => []
  | .r n _ _ _ :: l => n :: takenNames σ l
  | .a n _ _ :: l => n :: takenNames σ l
  | .m n _ _ _ :: l => n :: takenNames σ l
  | .o s _ _ _ :: l => match find σ.t s with | .sf n => n :: takenNames σ l | _ => takenNames σ l
  | .t _ _ _ :: l => takenNames σ l
def xnames : List LV → List Nat
  | [] => []
  | .r n _ _ _ :: l => n :: xnames l
  | .a n _ _ :: l => n :: xnames l
  | .m n _ _ _ :: l => n :: xnames l
  | .o _ n _ _ :: l => n :: xnames l
  | .t _ _ _ :: l => xnames l
def slotsOf : List LV → List Nat
  | [] => []
  | .t s _ _ :: l => s :: slotsOf l
  | .o s _ _ _ :: l => s :: slotsOf l
  | .r _ _ _ _ :: l => slotsOf l
  | .a _ _ _ :: l => slotsOf l
  | .m _ _ _ _ :: l => slotsOf l
def kslotsOf : List KV → List Nat
  | [] => []
  | .v s _ _ :: l => s :: kslotsOf l
  | .q s _ _ :: l => s :: kslotsOf l
  | .c s _ :: l => s :: kslotsOf l
def namesOf0 : SV → List Nat
  | .p r _ => [r]
  | .sf r => [r]
  | .mp r => [r]
  | .v _ (.pair (.hole r) .unit) _ => [r]
  | _ => []
def namesOfL : List SV → List Nat
  | [] => []
  | a :: l => appN (namesOf0 a) (namesOfL l)
def namesOf : SV → List Nat
  | .fn _ a b => appN (namesOfL a) (namesOfL b)
  | sv => namesOf0 sv
def pins : List KV → List Nat
  | [] => []
  | .c _ sv :: l => appN (namesOf sv) (pins l)
  | .v _ _ _ :: l => pins l
  | .q _ _ _ :: l => pins l
def kindOk0 (ρ : List LV) : SV → Bool
  | .p r _ => hasR r ρ
  | .sf r => hasA r ρ
  | .mp r => hasM r ρ
  | .v _ (.pair (.hole r) .unit) _ => hasR r ρ
  | _ => false
where
  hasR (r : Nat) : List LV → Bool
    | [] => false
    | .r n _ _ _ :: l => Nat.beq n r || hasR r l
    | .t _ _ _ :: l => hasR r l
    | .a _ _ _ :: l => hasR r l
    | .m _ _ _ _ :: l => hasR r l
    | .o _ _ _ _ :: l => hasR r l
  hasA (r : Nat) : List LV → Bool
    | [] => false
    | .a n _ _ :: l => Nat.beq n r || hasA r l
    | .t _ _ _ :: l => hasA r l
    | .r _ _ _ _ :: l => hasA r l
    | .m _ _ _ _ :: l => hasA r l
    | .o _ _ _ _ :: l => hasA r l
  hasM (r : Nat) : List LV → Bool
    | [] => false
    | .m n _ _ _ :: l => Nat.beq n r || hasM r l
    | .t _ _ _ :: l => hasM r l
    | .r _ _ _ _ :: l => hasM r l
    | .a _ _ _ :: l => hasM r l
    | .o _ _ _ _ :: l => hasM r l
def kindOkL (ρ : List LV) : List SV → Bool
  | [] => true
  | a :: l => kindOk0 ρ a && kindOkL ρ l
def kindOk (ρ : List LV) : SV → Bool
  | .fn _ a b => kindOkL ρ a && kindOkL ρ b
  | sv => kindOk0 ρ sv
def kindsOk (ρ : List LV) : List KV → Bool
  | [] => true
  | .c _ sv :: l => named sv && kindOk ρ sv && kindsOk ρ l
  | .v _ _ _ :: l => kindsOk ρ l
  | .q _ _ _ :: l => kindsOk ρ l
def without : List Nat → List Nat → List Nat
  | [], _ => []
  | n :: l, m => match natMem n m with | true => without l m | false => n :: without l m
def klents (σ : St) : List KV → List Nat
  | [] => []
  | .v s len τ :: l => match len with
    | true => (match lentV σ τ (find σ.t s) with | some (_, m) => appN m (klents σ l) | none => klents σ l)
    | false => klents σ l
  | .q s len τ :: l => match len with
    | true => (match lentV σ (.ref false τ) (find σ.t s) with | some (_, m) => appN m (klents σ l) | none => klents σ l)
    | false => klents σ l
  | .c _ _ :: l => klents σ l
def delAll : List Nat → List (Nat × Root) → List (Nat × Root)
  | [], r => r
  | n :: l, r => delAll l (del r n)
def usesAny : List Nat → SV → Bool
  | [], _ => false
  | n :: l, sv => sv.uses n || usesAny l sv
def keepT (asg gone : List Nat) : List (Nat × SV) → List (Nat × SV)
  | [] => []
  | (k, v) :: l => match natMem k asg || usesAny gone v with
    | true => (k, .x) :: keepT asg gone l
    | false => (k, v) :: keepT asg gone l
def keepKs (gone : List Nat) : List (List (Nat × SV)) → List (List (Nat × SV))
  | [] => []
  | t :: l => keepT [] gone t :: keepKs gone l
def pinOk (σ : St) : List KV → Bool
  | [] => true
  | .c s sv :: l => svSame (find σ.t s) sv && pinOk σ l
  | .v _ _ _ :: l => pinOk σ l
  | .q _ _ _ :: l => pinOk σ l
def boxSV0 : SV → Bool
  | .p _ [] => true
  | .v false (.pair (.hole _) .unit) _ => true
  | _ => false
def boxSVL : List SV → Bool
  | [] => true
  | a :: l => boxSV0 a && boxSVL l
def boxSV : SV → Bool
  | .fn _ a b => boxSVL a && boxSVL b
  | sv => boxSV0 sv
def pinsB : List KV → List Nat
  | [] => []
  | .c _ sv :: l => match boxSV sv with
    | true => appN (namesOf sv) (pinsB l)
    | false => pinsB l
  | .v _ _ _ :: l => pinsB l
  | .q _ _ _ :: l => pinsB l
def pinOkB (σ : St) : List KV → Bool
  | [] => true
  | .c s sv :: l => (!(boxSV sv) || svSame (find σ.t s) sv) && pinOkB σ l
  | .v _ _ _ :: l => pinOkB σ l
  | .q _ _ _ :: l => pinOkB σ l
def freeAll : List Nat → List (Nat × Root) → Bool
  | [], _ => true
  | n :: l, ρ => freeN n ρ && freeAll l ρ
def joinX (kp : List Nat) : List LV → St → Option St
  | [], σ => some σ
  | .r n _ _ _ :: l, σ => match joinK kp σ n with | some σ => joinX kp l σ | none => none
  | .m n _ _ _ :: l, σ => match joinK kp σ n with | some σ => joinX kp l σ | none => none
  | .t _ _ _ :: l, σ => joinX kp l σ
  | .a _ _ _ :: l, σ => joinX kp l σ
  | .o _ _ _ _ :: l, σ => joinX kp l σ
def outX (n b : Nat) (σ : St) (c : Cut) : Option (denL (xtys c.xs)) :=
  match joinX (xnames c.xs) c.xs σ with
  | some σ => match apart (takenNames σ c.xs) [] && pinOk σ c.ks && Nat.beq σ.n n && Nat.beq σ.b b && nilL σ.k with
    | true => extract σ c.xs
    | false => none
  | none => none
def outB (n : Nat) (σ : St) (c : Cut) : Option (denL (btys c.xs)) :=
  match joinX [] c.xs σ with
  | some σ => match pinOkB σ c.ks && nilL σ.k && Nat.beq σ.n n with
    | true => extractB σ c.xs
    | false => none
  | none => none
def behind (σ : St) (asg : List Nat) (c : Cut) (xv : denL (xtys c.xs)) : St :=
  let gone := without (appN (xnames c.xs) (takenNames σ c.xs)) (pins c.ks)
  { t := appT (xslots c.xs xv) (keepT asg gone σ.t), c := [], r := appR (xroots c.xs xv) (delAll (takenNames σ c.xs) σ.r), n := σ.n, b := σ.b, k := keepKs gone σ.k }
def broots : (xs : List LV) → denL (btys xs) → List (Nat × Root)
  | [], _ => []
  | .r n len _ τr :: l, (a, r) => (n, .box len τr a) :: broots l r
  | .t _ _ _ :: l, r => broots l r
  | .a _ _ _ :: l, r => broots l r
  | .m _ _ _ _ :: l, r => broots l r
  | .o _ _ _ _ :: l, r => broots l r
def behindB (σ : St) (asg : List Nat) (c : Cut) (b : denL (btys c.xs)) : St :=
  let gone := without (appN (xnames c.xs) (takenNames σ c.xs)) (pinsB c.ks)
  { t := keepT asg gone σ.t, c := [], r := appR (broots c.xs b) (delAll (takenNames σ c.xs) σ.r), n := σ.n, b := σ.b, k := keepKs gone σ.k }
def noLen : List LV → Bool
  | [] => true
  | .t _ len _ :: l => !len && noLen l
  | .r _ len _ _ :: l => !len && noLen l
  | .a _ len _ :: l => !len && noLen l
  | .m _ len _ _ :: l => !len && noLen l
  | .o _ _ len _ :: l => !len && noLen l
def ramN : List LV → List Nat
  | [] => []
  | .r n _ _ _ :: l => n :: ramN l
  | .a n _ _ :: l => n :: ramN l
  | .m n _ _ _ :: l => n :: ramN l
  | .t _ _ _ :: l => ramN l
  | .o _ _ _ _ :: l => ramN l
def holesFit (ns : List Nat) : List LV → Bool
  | [] => true
  | .r _ _ τ τr :: l => solidK ns τ && (solid τr && layB τ τr) && holesFit ns l
  | .t _ _ τ :: l => solid τ && holesFit ns l
  | .a _ _ _ :: l => holesFit ns l
  | .m _ _ _ _ :: l => holesFit ns l
  | .o _ _ _ _ :: l => holesFit ns l
def ksSolid : List KV → Bool
  | [] => true
  | .v _ _ τ :: l => solid τ && ksSolid l
  | .q _ _ _ :: l => ksSolid l
  | .c _ _ :: l => ksSolid l
def cutOk (σ : St) (asg : List Nat) (c : Cut) : Bool :=
  holesFit (ramN c.xs) c.xs && ksSolid c.ks &&
  apart (takenNames σ c.xs) (klents σ c.ks) && apart (xnames c.xs) [] && apart (slotsOf c.xs) (kslotsOf c.ks) && apart (kslotsOf c.ks) asg && allLt σ.n (slotsOf c.xs) &&
    kindsOk c.xs c.ks && (nilL (klents σ c.ks) || noLen c.xs) && freeAll (appN (xnames c.xs) (takenNames σ c.xs)) (delAll (takenNames σ c.xs) σ.r)
inductive LO (Q X B : Type)
  | brk (a : X)
  | ext (id : Nat) (a : X)
  | ret (q : Q) (b : B)
def bdL {Q X B R : Type} (o : Option (LO Q X B)) (f : X → Option R) (g : Nat → X → Option R) (h : Q → B → Option R) : Option R :=
  match o with
  | none => none
  | some (.brk b) => f b
  | some (.ext j b) => g j b
  | some (.ret q b) => h q b
inductive Ex (Q : Type)
  | n
  | e (id : Nat)
  | r (q : Q)
def loopF {Q : Type} (again : Bool) (id n bb ff : Nat) (c : Cut) (kv : denL (ktys c.ks))
    (body : St → (Ex Q → St → Option (LO Q (denL (xtys c.xs)) (denL (btys c.xs)))) → Option (LO Q (denL (xtys c.xs)) (denL (btys c.xs)))) :
    Nat → denL (xtys c.xs) → Option (LO Q (denL (xtys c.xs)) (denL (btys c.xs)))
  | 0, _ => none
  | m + 1, a => body (fill n bb c.ks kv c.xs a) fun e σ' => match e with
    | .n => match outX n bb σ' c with | some b => (match again with | true => loopF again id n bb ff c kv body m b | false => some (.brk b)) | none => none
    | .e j => match outX n bb σ' c with | some b => br (Nat.beq j id) (some (.brk b)) (some (.ext j b)) | none => none
    | .r q => match outB n σ' c with | some b => some (.ret q b) | none => none
def asB : SV → Option Bool
  | .v _ .bool b => some b
  | _ => none
def takesV (T : Tab) : (rs : List Ty) → List ResultVar → St → Option (denL rs × St)
  | [], [], σ => some ((), σ)
  | τ :: rs, .tmp t :: l, σ => match takeV σ τ (find σ.t t) with
    | some (a, σ) => match takesV T rs l σ with
      | some (r, σ) => some ((a, r), σ)
      | none => none
    | none => none
  | τ :: rs, .cell s ty :: l, σ => match opLoad T ty (find σ.t s) σ with
    | some (true, sv, _) => match takeV σ τ sv with
      | some (a, σ) => match takesV T rs l σ with
        | some (r, σ) => some ((a, r), σ)
        | none => none
      | none => none
    | _ => none
  | _, _, _ => none
def cutK {Q R : Type} (σ0 : St) (asg : List Nat) (c : Cut) (run : denL (ktys c.ks) → denL (xtys c.xs) → Option (LO Q (denL (xtys c.xs)) (denL (btys c.xs)))) (K : Ex Q → St → Option R) : Option R :=
  match joinX (xnames c.xs) c.xs σ0 with
  | some σ => match cutOk σ asg c with
    | true => match extractK σ c.ks, extract σ c.xs with
      | some kv, some xv => bdL (run kv xv) (fun b => K .n (behind σ asg c b)) (fun j b => K (.e j) (behind σ asg c b)) (fun q b => K (.r q) (behindB σ asg c b))
      | _, _ => none
    | false => none
  | none => none
def ridOf : Code → Nat
  | .region id _ _ => id
  | .seq a _ => ridOf a
  | .cond _ a _ => ridOf a
  | .block _ c => ridOf c
  | .loop c => ridOf c
  | _ => 0
def guardE {Q R : Type} (id : Nat) (K : Ex Q → St → Option R) (e : Ex Q) (σ : St) : Option R :=
  match e with
  | .n => K .n σ
  | .e j => br (Nat.beq j id) none (K (.e j) σ)
  | .r q => K (.r q) σ
noncomputable def unroll {Q R : Type} (body : St → (Ex Q → St → Option R) → Option R) (id : Nat) (K : Ex Q → St → Option R) : Nat → St → Option R
  | 0, _ => none
  | n + 1, σ => body σ fun e σ' => match e with
    | .n => unroll body id K n σ'
    | .e j => br (Nat.beq j id) (K .n σ') (K (.e j) σ')
    | .r q => K (.r q) σ'
noncomputable def ev (E : Env) (fn : E.Fn) (inl : Inl) (f : FuncId) (rv : List ResultVar) (k : Nat) : Code → (R : Type) → St → (Ex (denL (E.sig f).rs) → St → Option R) → Option R
  | .skip, _, σ, K => K .n σ
  | .region id ops draw, _, σ, K => match E.ann σ.b f (2000 + id) with
    | some cut => cutK σ (dsts (.region id ops draw)) cut (fun kv xv => loopF false (2000 + id) σ.n σ.b f cut kv (fun σ K => match draw with
      | false => runOps E fn inl f ops.toList ops.toList σ (K .n)
      | true => runDraw E fn inl f ops.toList σ (K .n)) 1 xv) K
    | none => match draw with
      | false => runOps E fn inl f ops.toList ops.toList σ (K .n)
      | true => runDraw E fn inl f ops.toList σ (K .n)
  | .seq a b, R, σ, K => ev E fn inl f rv k a R σ fun e σ' => match e with
    | .n => ev E fn inl f rv k b R σ' K
    | e => K e σ'
  | .cond c a b, R, σ, K => match E.ann σ.b f (1000 + ridOf a) with
    | some cut => cutK σ (dsts a ++ dsts b) cut (fun kv xv => loopF false (1000 + ridOf a) σ.n σ.b f cut kv (fun σ K => match asB (σ.arg E.G none c) with
      | some g => br g (ev E fn inl f rv k a _ σ (guardE (1000 + ridOf a) K)) (ev E fn inl f rv k b _ σ (guardE (1000 + ridOf a) K))
      | none => none) 1 xv) K
    | none => match asB (σ.arg E.G none c) with
      | some g => br g (ev E fn inl f rv k a R σ K) (ev E fn inl f rv k b R σ K)
      | none => none
  | .block id (.loop c), R, σ, K => match E.ann σ.b f id with
    | some cut => cutK σ (dsts c) cut (fun kv xv => loopF true id σ.n σ.b f cut kv (fun σ K => ev E fn inl f rv k c _ σ K) k xv) K
    | none => match E.cutAt f (3000 + id) with
      | true => unroll (fun σ K => ev E fn inl f rv k c R σ K) id K 12 σ
      | false => none
  | .block id c, R, σ, K => match E.ann σ.b f id with
    | some cut => cutK σ (dsts c) cut (fun kv xv => loopF false id σ.n σ.b f cut kv (fun σ K => ev E fn inl f rv k c _ σ K) 1 xv) K
    | none => ev E fn inl f rv k c R σ fun e σ' => match e with
      | .e j => br (Nat.beq j id) (K .n σ') (K (.e j) σ')
      | e => K e σ'
  | .exit id, _, σ, K => K (.e id) σ
  | .ret, _, σ, K => match takesV E.T (E.sig f).rs rv σ with
    | some (q, σ) => K (.r q) σ
    | none => none
  | _, _, _, _ => none
def slotsIn : List SV → Nat → List (Nat × SV)
  | [], _ => []
  | sv :: l, n => (n, sv) :: slotsIn l (n + 1)
def inBase (b d : Nat) : Nat := match b with
  | 0 => (d + 1) * 1000000
  | b + 1 => ((b + 1) / 1000000 * 1000 + d + 1) * 1000000
def leave (σ0 σ : St) : St :=
  match σ.k with
  | t :: k => { t := t, c := [], r := σ.r, n := σ0.n, b := σ0.b, k := k }
  | [] => { t := [], c := [], r := [], n := σ0.n, b := σ0.b, k := [] }
noncomputable def inlS (E : Env) (fn : E.Fn) (k : Nat) (inl : Inl) : Inl := fun f svs d R σ K => match E.F f with
    | some F => match F.body with
      | some c => match Nat.ble svs.length F.ntmps with
        | true => ev E fn inl f F.results.toList k c R { t := slotsIn svs 0, c := [], r := σ.r, n := F.ntmps, b := inBase σ.b d, k := σ.t :: σ.k } fun e σ' => match e with
          | .n => match takesV E.T (E.sig f).rs F.results.toList σ' with
            | some (q, σ') => retsK (E.sig f).rs q (σ.b + d) (leave σ σ') K
            | none => none
          | .r q => retsK (E.sig f).rs q (σ.b + d) (leave σ σ') K
          | .e _ => none
        | false => none
      | none => none
    | none => none
def inl0 (E : Env) (fn : E.Fn) (k : Nat) : Inl := fun _ _ _ _ _ _ => none
noncomputable def inl1 (E : Env) (fn : E.Fn) (k : Nat) : Inl := inlS E fn k (inl0 E fn k)
noncomputable def inl2 (E : Env) (fn : E.Fn) (k : Nat) : Inl := inlS E fn k (inl1 E fn k)
noncomputable def inl3 (E : Env) (fn : E.Fn) (k : Nat) : Inl := inlS E fn k (inl2 E fn k)
noncomputable def inl4 (E : Env) (fn : E.Fn) (k : Nat) : Inl := inlS E fn k (inl3 E fn k)
noncomputable def inl5 (E : Env) (fn : E.Fn) (k : Nat) : Inl := inlS E fn k (inl4 E fn k)
def initV : (ps : List (Bool × Ty)) → denL (ps.map (·.2)) → Nat → List (Nat × SV) × List (Nat × Root)
  | [], _, _ => ([], [])
  | (len, τ) :: ps, (a, r), n =>
    let (l, ρ) := initV ps r (n + 1)
    match τ, a with
    | .ref true t, a => ((n, .p n []) :: l, (n, .box len t a) :: ρ)
    | .pair (.ref true t) .unit, a => ((n, .v false (.pair (.hole n) .unit) ((), ())) :: l, (n, .box len t a.1) :: ρ)
    | τ, a => match len with
      | true => match τ, a with
        | .ref false t, a => ((n, .q true t a) :: l, ρ)
        | τ, a => ((n, mkv true τ a) :: l, ρ)
      | false => match τ, a with
        | .sl true t, a => ((n, .sf n) :: l, (n, .arr false false t a) :: ρ)
        | .map true k v, a => ((n, .mp n) :: l, (n, .map false k v a none) :: ρ)
        | τ, a => ((n, match τ.flat with | true => mkv false τ a | false => .x) :: l, ρ)
def someO : (o : Option Ty) → (l : List Ty) → TV → denL l → Option (denL (consO o l))
  | some t, _, ⟨u, a⟩, r => match coe t u a with | some y => some (y, r) | none => none
  | none, _, _, r => some r
def outsOf : (ps : List (Bool × Ty)) → Nat → St → Option (denL (outTys ps))
  | [], _, _ => some ()
  | (len, τ) :: ps, n, σ => match ioTy τ with
    | none => match outsOf ps (n + 1) σ with | some r => someO (ioTy τ) (outTys ps) ⟨.unit, ()⟩ r | none => none
    | some _ => match boxOf (find σ.t n) with
      | some k => match Nat.beq k n && boxFits τ (find σ.t n), look σ.r n with
        | true, some (.box l u a) => match !l || len, outsOf ps (n + 1) σ with | true, some r => someO (ioTy τ) (outTys ps) ⟨u, a⟩ r | _, _ => none
        | _, _ => none
      | none => none
def joinAll : List Nat → St → Option St
  | [], σ => some σ
  | n :: l, σ => match joinR σ n with | some σ => joinAll l σ | none => none
def sigSolid : List (Bool × Ty) → Bool
  | [] => true
  | (_, τ) :: l => solid τ && (match ioTy τ with | some t => solid t | none => true) && sigSolid l
def outSlots : List (Bool × Ty) → Nat → List Nat
  | [], _ => []
  | (_, τ) :: ps, n => match ioTy τ with
    | some _ => n :: outSlots ps (n + 1)
    | none => outSlots ps (n + 1)
def outsJ (ps : List (Bool × Ty)) (σ : St) : Option (denL (outTys ps)) :=
  match joinAll (outSlots ps 0) σ with
  | some σ => outsOf ps 0 σ
  | none => none
noncomputable def fnB (E : Env) (fn : E.Fn) (k : Nat) (f : FuncId) (c : Code) (ntmps : Nat) (rv : List ResultVar) (a : denL (E.sig f).pt) :
    Option (denL (E.sig f).rs × denL (E.sig f).os) :=
  match Nat.ble (E.sig f).ps.length ntmps && apart (outSlots (E.sig f).ps 0) (dsts c) && sigSolid (E.sig f).ps with
  | true => match initV (E.sig f).ps a 0 with
    | (l, r) => ev E fn (inl5 E fn k) f rv k c _ ⟨l, [], r, ntmps, (f + 1) * 1000000, []⟩ fun e σ => match e with
      | .n => match takesV E.T (E.sig f).rs rv σ with
        | some (q, σ) => match outsJ (E.sig f).ps σ with | some o => some (q, o) | none => none
        | none => none
      | .r q => match outsJ (E.sig f).ps σ with | some o => some (q, o) | none => none
      | .e _ => none
  | false => none
noncomputable def fnS (E : Env) (fn : E.Fn) (k : Nat) (f : FuncId) (a : denL (E.sig f).pt) : Option (denL (E.sig f).rs × denL (E.sig f).os) :=
  match E.F f with
  | some F => match F.body with
    | some c => fnB E fn k f c F.ntmps F.results.toList a
    | none => none
  | none => none
noncomputable def fnE (E : Env) : Nat → E.Fn
  | 0 => fun _ _ => none
  | k + 1 => fun f a => match E.hand f with
    | some g => g a
    | none => fnS E (fnE E k) k f a
end Go.Proofs.YthlpjdjipchdkaaDoor.E

namespace Go.Proofs.YthlpjdjipchdkaaDoor.E
open Go
set_option linter.unusedSimpArgs false
set_option linter.unusedVariables false
def fldOff : Ty → Nat → Option (Nat × Ty)
  | .pair a _, 0 => some (0, a)
  | .pair a b, n + 1 => match fldOff b n with
    | some (o, u) => some (a.size + o, u)
    | none => none
  | _, _ => none
def selOff : List Sel → Ty → Option (Nat × Ty)
  | [], t => some (0, t)
  | .f i :: s, t => match fldOff t i with
    | some (o, u) => match selOff s u with
      | some (o', w) => some (o + o', w)
      | none => none
    | none => none
  | .i n :: s, .arr _ t => match selOff s t with
    | some (o', w) => some (n * t.size + o', w)
    | none => none
  | _, _ => none
def selOk : List Sel → Ty → Prop
  | [], _ => True
  | .f i :: s, t => match fldOff t i with
    | some (_, u) => selOk s u
    | none => False
  | .i n :: s, .arr m t => n < m ∧ selOk s t
  | _, _ => False
theorem fldGet_off : ∀ (t : Ty) (x : den t) (i : Nat) (p : Pt), fldGet t x i = some p → fldOff t i = some (p.o, p.t)
  | .pair a b, x, 0, p, h => by simp [fldGet] at h; subst h; simp [fldOff]
  | .pair a b, x, n + 1, p, h => by
    simp only [fldGet] at h
    cases hg : fldGet b x.2 n with
    | none => simp [hg] at h
    | some q =>
      simp [hg] at h
      have := fldGet_off b x.2 n q hg
      subst h
      simp [fldOff, this]
  | .int _, _, _, _, h | .bool, _, _, _, h | .str, _, _, _, h | .unit, _, _, _, h | .arr _ _, _, _, _, h | .sl _ _, _, _, _, h | .ptr _ _, _, _, _, h | .ref _ _, _, _, _, h | .map _ _ _, _, _, _, h | .hole _, _, _, _, h | .raw _ _, _, _, _, h | .nils, _, _, _, h | .nilp, _, _, _, h => by
    simp [fldGet] at h
theorem selGet_off : ∀ (s : List Sel) (t : Ty) (x : den t) (p : Pt), selGet s t x = some p → selOff s t = some (p.o, p.t)
  | [], t, x, p, h => by simp [selGet] at h; subst h; simp [selOff]
  | .f i :: s, t, x, p, h => by
    simp only [selGet] at h
    cases hf : fldGet t x i with
    | none => simp [hf] at h
    | some q =>
      simp only [hf] at h
      cases hg : selGet s q.t q.a with
      | none => simp [hg] at h
      | some q' =>
        simp [hg] at h
        have h1 := fldGet_off t x i q hf
        have h2 := selGet_off s q.t q.a q' hg
        subst h
        simp [selOff, h1, h2]
  | .i n :: s, .arr m t, x, p, h => by
    simp only [selGet] at h
    cases hso : solid t with
    | false => simp [hso] at h
    | true =>
    simp only [hso] at h
    cases hg : selGet s t (List.getD x n (dflt t)) with
    | none => rw [hg] at h; simp at h
    | some q' =>
      rw [hg] at h; simp at h
      have h2 := selGet_off s t _ q' hg
      subst h
      simp [selOff, h2]
  | .i n :: s, .int _, x, p, h | .i n :: s, .bool, x, p, h | .i n :: s, .str, x, p, h | .i n :: s, .unit, x, p, h | .i n :: s, .pair _ _, x, p, h
  | .i n :: s, .sl _ _, x, p, h | .i n :: s, .ptr _ _, x, p, h | .i n :: s, .ref _ _, x, p, h | .i n :: s, .map _ _ _, x, p, h | .i n :: s, .hole _, x, p, h | .i n :: s, .raw _ _, x, p, h | .i n :: s, .nils, x, p, h | .i n :: s, .nilp, x, p, h => by simp [selGet] at h
theorem fldOff_le : ∀ {t : Ty} {i o : Nat} {a : Ty}, fldOff t i = some (o, a) → o + a.size ≤ t.size
  | .pair a b, 0, o, u, h => by simp [fldOff] at h; obtain ⟨rfl, rfl⟩ := h; simp [Ty.size]
  | .pair a b, n + 1, o, u, h => by
    simp only [fldOff] at h
    cases hf : fldOff b n with
    | none => simp [hf] at h
    | some q =>
      simp [hf] at h
      have := fldOff_le hf
      obtain ⟨rfl, rfl⟩ := h
      simp [Ty.size]; omega
  | .int _, _, _, _, h | .bool, _, _, _, h | .str, _, _, _, h | .unit, _, _, _, h | .arr _ _, _, _, _, h | .sl _ _, _, _, _, h | .ptr _ _, _, _, _, h | .ref _ _, _, _, _, h | .map _ _ _, _, _, _, h | .hole _, _, _, _, h | .raw _ _, _, _, _, h | .nils, _, _, _, h | .nilp, _, _, _, h => by simp [fldOff] at h
theorem selOff_le : ∀ {s : List Sel} {t : Ty} {o : Nat} {a : Ty}, selOff s t = some (o, a) → selOk s t → o + a.size ≤ t.size
  | [], t, o, a, h, _ => by simp [selOff] at h; obtain ⟨rfl, rfl⟩ := h; simp
  | .f i :: s, t, o, a, h, hok => by
    simp only [selOff] at h
    cases hf : fldOff t i with
    | none => simp [hf] at h
    | some q =>
      simp only [hf] at h
      simp only [selOk, hf] at hok
      cases hs : selOff s q.2 with
      | none => simp [hs] at h
      | some q' =>
        simp [hs] at h
        obtain ⟨rfl, rfl⟩ := h
        have h1 := fldOff_le (t := t) (i := i) (o := q.1) (a := q.2) hf
        have h2 := selOff_le (o := q'.1) (a := q'.2) hs hok
        omega
  | .i n :: s, .arr m t, o, a, h, hok => by
    simp only [selOff] at h
    cases hs : selOff s t with
    | none => simp [hs] at h
    | some q' =>
      simp [hs] at h
      obtain ⟨rfl, rfl⟩ := h
      have h2 := selOff_le (o := q'.1) (a := q'.2) hs hok.2
      have : n * t.size + t.size ≤ m * t.size := by
        rw [← Nat.succ_mul]; exact Nat.mul_le_mul_right _ hok.1
      simp [Ty.size]; omega
  | .i n :: s, .int _, _, _, h, _ | .i n :: s, .bool, _, _, h, _ | .i n :: s, .str, _, _, h, _ | .i n :: s, .unit, _, _, h, _ | .i n :: s, .pair _ _, _, _, h, _
  | .i n :: s, .sl _ _, _, _, h, _ | .i n :: s, .ptr _ _, _, _, h, _ | .i n :: s, .ref _ _, _, _, h, _ | .i n :: s, .map _ _ _, _, _, h, _ | .i n :: s, .hole _, _, _, h, _ | .i n :: s, .raw _ _, _, _, h, _ | .i n :: s, .nils, _, _, h, _ | .i n :: s, .nilp, _, _, h, _ => by simp [selOff] at h
theorem seg_seg (cs c : List Value) (o a o' u : Nat) (h1 : o' + u ≤ a) (h2 : o + a ≤ cs.length) :
    cs.take o ++ (((cs.drop o).take a).take o' ++ c ++ ((cs.drop o).take a).drop (o' + u)) ++ cs.drop (o + a) = cs.take (o + o') ++ c ++ cs.drop (o + o' + u) := by
  have e1 : List.take (o + o') cs = List.take o cs ++ List.take o' (List.drop o cs) := by rw [List.take_add]
  have e2 : List.drop (o + o' + u) cs = List.take (a - (o' + u)) (List.drop (o + o' + u) cs) ++ List.drop (o + a) cs := by
    conv => lhs; rw [← List.take_append_drop (a - (o' + u)) (List.drop (o + o' + u) cs)]
    rw [List.drop_drop]; congr 2; omega
  rw [e1, e2, List.take_take, List.drop_take, List.drop_drop, Nat.min_eq_left (by omega : o' ≤ a)]
  simp [List.append_assoc, Nat.add_assoc]
theorem RL.get {α : Type} {R : α → List Value → List Nat → Prop} {s : Nat} (hr : ∀ x c X, R x c X → c.length = s) (d : α) :
    ∀ {xs : List α} {cs X} (n : Nat), n < xs.length → RL R xs cs X → ∃ Y, (∀ b ∈ Y, b ∈ X) ∧ (X.Nodup → Y.Nodup) ∧ R (xs.getD n d) ((cs.drop (n * s)).take s) Y ∧ n * s + s ≤ cs.length
  | [], _, _, _, hn, _ => by simp at hn
  | x :: xs, cs, X, 0, _, ⟨c1, c2, X1, X2, h1, h2, h3, h4⟩ => by
    have hl := hr _ _ _ h3
    refine ⟨X1, by subst h2; intro b hb; simp [hb], by subst h2; intro hd; exact (List.nodup_append.1 hd).1, ?_, by simp [h1, hl]⟩
    rw [h1]
    simpa [← hl] using h3
  | x :: xs, cs, X, n + 1, hn, ⟨c1, c2, X1, X2, h1, h2, h3, h4⟩ => by
    have hl := hr _ _ _ h3
    obtain ⟨Y, hY, hd, hR, hlen⟩ := RL.get hr d (xs := xs) n (by simpa using hn) h4
    refine ⟨Y, by subst h2; intro b hb; simp [hY b hb], by subst h2; intro h; exact hd (List.nodup_append.1 h).2.1, ?_, ?_⟩
    · have : cs.drop ((n + 1) * s) = c2.drop (n * s) := by
        rw [h1, Nat.add_mul, Nat.one_mul, Nat.add_comm, ← List.drop_drop]
        simp [← hl]
      rw [this]; simpa using hR
    · rw [h1, List.length_append, hl, Nat.add_mul]; omega
theorem RL.set {α : Type} {R : α → List Value → List Nat → Prop} {s : Nat} (hr : ∀ x c X, R x c X → c.length = s) (d : α) :
    ∀ {xs : List α} {cs X} (n : Nat) (y : α) (c : List Value), n < xs.length → (∀ Y, R (xs.getD n d) ((cs.drop (n * s)).take s) Y → R y c Y) → RL R xs cs X →
      RL R (xs.set n y) (cs.take (n * s) ++ c ++ cs.drop (n * s + s)) X
  | [], _, _, _, _, _, hn, _, _ => by simp at hn
  | x :: xs, cs, X, 0, y, c, _, hy, ⟨c1, c2, X1, X2, h1, h2, h3, h4⟩ => by
    have hl := hr _ _ _ h3
    refine ⟨c, c2, X1, X2, ?_, h2, hy X1 ?_, h4⟩
    · rw [h1]; simp [← hl]
    · rw [h1]; simpa [← hl] using h3
  | x :: xs, cs, X, n + 1, y, c, hn, hy, ⟨c1, c2, X1, X2, h1, h2, h3, h4⟩ => by
    have hl := hr _ _ _ h3
    have e1 : (n + 1) * s = c1.length + n * s := by rw [hl, Nat.add_mul]; omega
    refine ⟨c1, _, X1, X2, ?_, h2, h3, RL.set hr d n y c (by simpa using hn) ?_ h4⟩
    · have e2 : c1.length + n * s + s - c1.length = n * s + s := by omega
      rw [h1, e1, List.take_append, List.drop_append]
      simp [List.take_of_length_le, List.drop_of_length_le, Nat.add_assoc, e2]
    · intro Y hY
      refine hy Y ?_
      have : List.drop ((n + 1) * s) cs = List.drop (n * s) c2 := by rw [h1, e1, ← List.drop_drop]; simp
      rw [this]; simpa using hY
theorem RL.drop {α : Type} {R : α → List Value → List Nat → Prop} {s : Nat} (hr : ∀ x c X, R x c X → c.length = s) :
    ∀ {xs : List α} {cs X} (n : Nat), RL R xs cs X → ∃ Y, (∀ b ∈ Y, b ∈ X) ∧ RL R (xs.drop n) (cs.drop (n * s)) Y
  | xs, cs, X, 0, h => ⟨X, fun _ h => h, by simpa using h⟩
  | [], cs, X, n + 1, h => ⟨X, fun _ h => h, by rw [h.1]; simpa using ⟨rfl, h.2⟩⟩
  | x :: xs, cs, X, n + 1, ⟨c1, c2, X1, X2, h1, h2, h3, h4⟩ => by
    have hl := hr _ _ _ h3
    obtain ⟨Y, hY, hR⟩ := RL.drop hr (xs := xs) n h4
    refine ⟨Y, by subst h2; intro b hb; simp [hY b hb], ?_⟩
    have : cs.drop ((n + 1) * s) = c2.drop (n * s) := by
      rw [h1, Nat.add_mul, Nat.one_mul, Nat.add_comm, ← List.drop_drop]
      simp [← hl]
    rw [this]; simpa using hR
theorem RL.take {α : Type} {R : α → List Value → List Nat → Prop} {s : Nat} (hr : ∀ x c X, R x c X → c.length = s) :
    ∀ {xs : List α} {cs X} (n : Nat), RL R xs cs X → ∃ Y, (∀ b ∈ Y, b ∈ X) ∧ RL R (xs.take n) (cs.take (n * s)) Y
  | xs, cs, X, 0, h => ⟨[], by simp, by simp [RL]⟩
  | [], cs, X, n + 1, h => ⟨X, fun _ h => h, by rw [h.1]; simpa using ⟨rfl, h.2⟩⟩
  | x :: xs, cs, X, n + 1, ⟨c1, c2, X1, X2, h1, h2, h3, h4⟩ => by
    have hl := hr _ _ _ h3
    obtain ⟨Y, hY, hR⟩ := RL.take hr (xs := xs) n h4
    refine ⟨X1 ++ Y, ?_, ?_⟩
    · subst h2
      intro b hb
      rcases List.mem_append.1 hb with h | h
      · simp [h]
      · simp [hY b h]
    · have : cs.take ((n + 1) * s) = c1 ++ c2.take (n * s) := by
        rw [h1, List.take_append]
        have : (n + 1) * s - c1.length = n * s := by rw [hl, Nat.add_mul]; omega
        rw [this, List.take_of_length_le (by rw [hl, Nat.add_mul]; omega)]
      rw [this]
      exact ⟨c1, _, X1, Y, rfl, rfl, h3, hR⟩
theorem RL.replicate {α : Type} {R : α → List Value → List Nat → Prop} {x : α} {c : List Value} (h : R x c []) : ∀ n, RL R (List.replicate n x) (List.replicate n c).flatten []
  | 0 => ⟨rfl, rfl⟩
  | n + 1 => ⟨c, _, [], [], rfl, rfl, h, RL.replicate h n⟩
section
variable {h : Hp} {S : Set'}
theorem Rep.dflt : ∀ {t : Ty}, zOk t = true → ∀ l, Rep h S l t (E.dflt t) (zeroC t) []
  | .int _, _, _ | .bool, _, _ | .str, _, _ | .unit, _, _ => ⟨rfl, rfl⟩
  | .pair a b, hz, l => by
    simp only [zOk, Bool.and_eq_true] at hz
    exact ⟨_, _, [], [], rfl, rfl, Rep.dflt hz.1 l, Rep.dflt hz.2 l⟩
  | .arr n t, hz, l => ⟨by simp [E.dflt], RL.replicate (Rep.dflt (t := t) hz l) n⟩
  | .sl o t, _, _ => ⟨none, 0, rfl, Nat.zero_le _, .inl ⟨rfl, rfl, rfl, rfl⟩⟩
  | .ptr o t, _, _ => ⟨rfl, rfl⟩
  | .ref _ _, hz, _ | .map _ _ _, hz, _ | .hole _, hz, _ | .raw _ _, hz, _ | .nils, hz, _ | .nilp, hz, _ => by simp [zOk] at hz
theorem fldGet_rep : ∀ {t : Ty} {x : den t} {i : Nat} {p : Pt} {cs : List Value} {l : Bool} {X : List Nat}, fldGet t x i = some p → Rep h S l t x cs X →
    ∃ Y, (∀ b ∈ Y, b ∈ X) ∧ Rep h S l p.t p.a ((cs.drop p.o).take p.t.size) Y ∧ p.o + p.t.size ≤ cs.length
  | .pair a b, x, 0, p, cs, l, X, hg, ⟨c1, c2, X1, X2, h1, h2, h3, h4⟩ => by
    simp [fldGet] at hg
    subst hg
    have hl := h3.len
    refine ⟨X1, by subst h2; intro b hb; simp [hb], ?_, by simp [h1, hl]⟩
    rw [h1]; simpa [← hl] using h3
  | .pair a b, x, n + 1, p, cs, l, X, hg, ⟨c1, c2, X1, X2, h1, h2, h3, h4⟩ => by
    simp only [fldGet] at hg
    cases hf : fldGet b x.2 n with
    | none => simp [hf] at hg
    | some q =>
      simp [hf] at hg
      subst hg
      have hl := h3.len
      obtain ⟨Y, hY, hR, hle⟩ := fldGet_rep hf h4
      refine ⟨Y, by subst h2; intro b hb; simp [hY b hb], ?_, by simp [h1, hl]; omega⟩
      have : cs.drop (a.size + q.o) = c2.drop q.o := by rw [h1, ← List.drop_drop]; simp [← hl]
      simp only [this]; exact hR
  | .int _, _, _, _, _, _, _, hg, _ | .bool, _, _, _, _, _, _, hg, _ | .str, _, _, _, _, _, _, hg, _ | .unit, _, _, _, _, _, _, hg, _ | .arr _ _, _, _, _, _, _, _, hg, _ | .sl _ _, _, _, _, _, _, _, hg, _ | .ptr _ _, _, _, _, _, _, _, hg, _ | .ref _ _, _, _, _, _, _, _, hg, _ | .map _ _ _, _, _, _, _, _, _, hg, _ | .hole _, _, _, _, _, _, _, hg, _ | .raw _ _, _, _, _, _, _, _, hg, _ | .nils, _, _, _, _, _, _, hg, _ | .nilp, _, _, _, _, _, _, hg, _ => by
    simp [fldGet] at hg
theorem selGet_rep : ∀ {s : List Sel} {t : Ty} {x : den t} {p : Pt} {cs : List Value} {l : Bool} {X : List Nat}, selGet s t x = some p → selOk s t → Rep h S l t x cs X →
    ∃ Y, (∀ b ∈ Y, b ∈ X) ∧ Rep h S l p.t p.a ((cs.drop p.o).take p.t.size) Y ∧ p.o + p.t.size ≤ cs.length
  | [], t, x, p, cs, l, X, hg, _, hr => by
    simp [selGet] at hg
    subst hg
    have := hr.len
    exact ⟨X, fun _ h => h, by simpa [← this] using hr, by simp [this]⟩
  | .f i :: s, t, x, p, cs, l, X, hg, hok, hr => by
    simp only [selGet] at hg
    cases hf : fldGet t x i with
    | none => simp [hf] at hg
    | some q =>
      simp only [hf] at hg
      have ho := fldGet_off t x i q hf
      simp only [selOk, ho] at hok
      cases hs : selGet s q.t q.a with
      | none => simp [hs] at hg
      | some q' =>
        simp [hs] at hg
        subst hg
        obtain ⟨Y, hY, hR, hle⟩ := fldGet_rep hf hr
        obtain ⟨Z, hZ, hR', hle'⟩ := selGet_rep hs hok hR
        have hlq := hR.len
        rw [hlq] at hle'
        refine ⟨Z, fun b hb => hY b (hZ b hb), ?_, by simp; omega⟩
        have : (List.take q'.t.size (List.drop q'.o (List.take q.t.size (List.drop q.o cs)))) = List.take q'.t.size (List.drop (q.o + q'.o) cs) := by
          rw [List.drop_take, List.take_take, List.drop_drop]
          congr 1; omega
        rw [this] at hR'; exact hR'
  | .i n :: s, .arr m t, x, p, cs, l, X, hg, hok, ⟨hlen, hr⟩ => by
    simp only [selGet] at hg
    cases hso : solid t with
    | false => simp [hso] at hg
    | true =>
    simp only [hso] at hg
    cases hs : selGet s t (List.getD x n (E.dflt t)) with
    | none => rw [hs] at hg; simp at hg
    | some q' =>
      rw [hs] at hg; simp at hg
      subst hg
      obtain ⟨hn, hok⟩ := hok
      obtain ⟨Y, hY, _, hR, hle⟩ := RL.get (fun _ _ _ => Rep.len) (E.dflt t) n (by rw [hlen]; exact hn) hr
      obtain ⟨Z, hZ, hR', hle'⟩ := selGet_rep hs hok hR
      have hlq := hR.len
      rw [hlq] at hle'
      refine ⟨Z, fun b hb => hY b (hZ b hb), ?_, by simp; omega⟩
      have : (List.take q'.t.size (List.drop q'.o (List.take t.size (List.drop (n * t.size) cs)))) = List.take q'.t.size (List.drop (n * t.size + q'.o) cs) := by
        rw [List.drop_take, List.take_take, List.drop_drop]
        congr 1; omega
      rw [this] at hR'; exact hR'
  | .i n :: s, .int _, _, _, _, _, _, hg, _, _ | .i n :: s, .bool, _, _, _, _, _, hg, _, _ | .i n :: s, .str, _, _, _, _, _, hg, _, _ | .i n :: s, .unit, _, _, _, _, _, hg, _, _ | .i n :: s, .pair _ _, _, _, _, _, _, hg, _, _
  | .i n :: s, .sl _ _, _, _, _, _, _, hg, _, _ | .i n :: s, .ptr _ _, _, _, _, _, _, hg, _, _ | .i n :: s, .ref _ _, _, _, _, _, _, hg, _, _ | .i n :: s, .map _ _ _, _, _, _, _, _, hg, _, _ | .i n :: s, .hole _, _, _, _, _, _, hg, _, _ | .i n :: s, .raw _ _, _, _, _, _, _, hg, _, _ | .i n :: s, .nils, _, _, _, _, _, hg, _, _ | .i n :: s, .nilp, _, _, _, _, _, hg, _, _ => by simp [selGet] at hg
theorem fldSet_rep : ∀ {t : Ty} {x : den t} {i : Nat} {f : (u : Ty) → den u → Option (den u)} {z : den t}, fldSet t x i f = some z →
    ∃ o a, ∃ (v w : den a), fldOff t i = some (o, a) ∧ f a v = some w ∧ ∀ (l : Bool) (cs : List Value) (X : List Nat), Rep h S l t x cs X → ∀ c,
      (∀ Y, Rep h S l a v ((cs.drop o).take a.size) Y → Rep h S l a w c Y) → Rep h S l t z (cs.take o ++ c ++ cs.drop (o + a.size)) X
  | .pair a b, x, 0, f, z, hs => by
    simp only [fldSet] at hs
    cases hf : f a x.1 with
    | none => simp [hf] at hs
    | some y =>
      simp [hf] at hs
      subst hs
      refine ⟨0, a, x.1, y, rfl, hf, ?_⟩
      rintro l cs X ⟨c1, c2, X1, X2, h1, h2, h3, h4⟩ c hc
      have hl := h3.len
      refine ⟨c, c2, X1, X2, ?_, h2, hc X1 ?_, h4⟩
      · rw [h1]; simp [← hl]
      · rw [h1]; simpa [← hl] using h3
  | .pair a b, x, n + 1, f, z, hs => by
    simp only [fldSet] at hs
    cases hf : fldSet b x.2 n f with
    | none => simp [hf] at hs
    | some y =>
      simp [hf] at hs
      subst hs
      obtain ⟨o, u, v, w, ho, hfw, hrep⟩ := fldSet_rep hf
      refine ⟨a.size + o, u, v, w, by simp [fldOff, ho], hfw, ?_⟩
      rintro l cs X ⟨c1, c2, X1, X2, h1, h2, h3, h4⟩ c hc
      have hl := h3.len
      refine ⟨c1, _, X1, X2, ?_, h2, h3, hrep l c2 X2 h4 c ?_⟩
      · rw [h1, ← hl, List.take_append, List.drop_append]
        have e1 : c1.length + o + u.size - c1.length = o + u.size := by omega
        simp [List.take_of_length_le, List.drop_of_length_le, Nat.add_assoc, e1]
      · intro Y hY
        refine hc Y ?_
        have : List.drop (a.size + o) cs = List.drop o c2 := by rw [h1, ← List.drop_drop, ← hl]; simp
        rw [this]; exact hY
  | .int _, _, _, _, _, hs | .bool, _, _, _, _, hs | .str, _, _, _, _, hs | .unit, _, _, _, _, hs | .arr _ _, _, _, _, _, hs | .sl _ _, _, _, _, _, hs | .ptr _ _, _, _, _, _, hs | .ref _ _, _, _, _, _, hs | .map _ _ _, _, _, _, _, hs | .hole _, _, _, _, _, hs | .raw _ _, _, _, _, _, hs | .nils, _, _, _, _, hs | .nilp, _, _, _, _, hs => by
    simp [fldSet] at hs
theorem cast?_some {t u : Ty} {a : den t} {b : den u} (h : cast? u a = some b) : t = u ∧ HEq a b := by
  unfold cast? at h
  split at h
  · rename_i he
    have := tyEq_iff he
    subst this
    simp at h
    exact ⟨rfl, heq_of_eq h⟩
  · cases h
theorem selSet_rep : ∀ {s : List Sel} {u : Ty} {y : den u} {t : Ty} {x z : den t}, selSet s u y t x = some z → u.flat = true →
    ∃ o, selOff s t = some (o, u) ∧ ∀ (l : Bool) (cs : List Value) (X : List Nat), selOk s t → Rep h S l t x cs X → ∀ c,
      Rep h S l u y c [] → Rep h S l t z (cs.take o ++ c ++ cs.drop (o + u.size)) X
  | [], u, y, t, x, z, hs, hf => by
    simp only [selSet] at hs
    obtain ⟨rfl, he⟩ := cast?_some hs
    have := eq_of_heq he
    subst this
    refine ⟨0, rfl, ?_⟩
    intro l cs X _ hr c hc
    have hl := hr.len
    have hX := (Rep.flat hf hr).1
    subst hX
    simpa [hl, List.drop_of_length_le] using hc
  | .f i :: s, u, y, t, x, z, hs, hf => by
    simp only [selSet] at hs
    obtain ⟨o, a, v, w, ho, hfw, hrep⟩ := fldSet_rep (h := h) (S := S) hs
    obtain ⟨o', ho', hrep'⟩ := selSet_rep hfw hf
    refine ⟨o + o', by simp [selOff, ho, ho'], ?_⟩
    intro l cs X hok hr c hc
    simp only [selOk, ho] at hok
    have hz := hrep l cs X hr (((cs.drop o).take a.size).take o' ++ c ++ ((cs.drop o).take a.size).drop (o' + u.size)) (fun Y hY => hrep' l _ Y hok hY c hc)
    have h2 := hr.len
    have hb1 := fldOff_le ho
    have hb2 := selOff_le ho' hok
    have e := seg_seg cs c o a.size o' u.size (by omega) (by omega)
    rw [e] at hz; exact hz
  | .i n :: s, u, y, .arr m t, x, z, hs, hf => by
    simp only [selSet] at hs
    cases hg : selSet s u y t (List.getD x n (E.dflt t)) with
    | none => rw [hg] at hs; simp at hs
    | some w =>
      rw [hg] at hs; simp at hs
      subst hs
      obtain ⟨o', ho', hrep'⟩ := selSet_rep hg hf
      refine ⟨n * t.size + o', by simp [selOff, ho'], ?_⟩
      rintro l cs X ⟨hn, hok⟩ ⟨hlen, hr⟩ c hc
      refine ⟨by simpa using hlen, ?_⟩
      have hz := RL.set (fun _ _ _ => Rep.len) (E.dflt t) n w _ (by rw [hlen]; exact hn) (fun Y hY => hrep' l _ Y hok hY c hc) hr
      have hb2 := selOff_le ho' hok
      have hl := RL.len (fun _ _ _ => Rep.len) hr
      have e := seg_seg cs c (n * t.size) t.size o' u.size (by omega) (by
        rw [hl, hlen, ← Nat.succ_mul]; exact Nat.mul_le_mul_right _ hn)
      rw [e] at hz; exact hz
  | .i n :: s, _, _, .int _, _, _, hs, _ | .i n :: s, _, _, .bool, _, _, hs, _ | .i n :: s, _, _, .str, _, _, hs, _ | .i n :: s, _, _, .unit, _, _, hs, _ | .i n :: s, _, _, .pair _ _, _, _, hs, _
  | .i n :: s, _, _, .sl _ _, _, _, hs, _ | .i n :: s, _, _, .ptr _ _, _, _, hs, _ | .i n :: s, _, _, .ref _ _, _, _, hs, _ | .i n :: s, _, _, .map _ _ _, _, _, hs, _ | .i n :: s, _, _, .hole _, _, _, hs, _ | .i n :: s, _, _, .raw _ _, _, _, hs, _ | .i n :: s, _, _, .nils, _, _, hs, _ | .i n :: s, _, _, .nilp, _, _, hs, _ => by simp [selSet] at hs
end
theorem rep_any {h : Hp} {S : Set'} : ∀ {t : Ty} {x : den t} {cs : List Value} {l : Bool}, t.flat = true → Rep h S true t x cs [] → Rep h S l t x cs []
  | .int _, _, _, _, _, hr | .bool, _, _, _, _, hr | .str, _, _, _, _, hr | .unit, _, _, _, _, hr => hr
  | .pair a b, _, _, _, hf, ⟨c1, c2, X1, X2, h1, h2, h3, h4⟩ => by
    simp only [Ty.flat, Bool.and_eq_true] at hf
    simp only [List.nil_eq, List.append_eq_nil_iff] at h2
    obtain ⟨rfl, rfl⟩ := h2
    exact ⟨c1, c2, [], [], h1, rfl, rep_any hf.1 h3, rep_any hf.2 h4⟩
  | .arr _ t, _, _, _, hf, ⟨h1, h2⟩ =>
    ⟨h1, RL.mono_mem (fun x c Y _ hY hr => by
      have : Y = [] := by cases Y with | nil => rfl | cons b Y => exact absurd (hY b (by simp)) (by simp)
      subst this
      exact rep_any (t := t) hf hr) h2⟩
  | .sl o t, _, _, l, hf, ⟨a, c, h1, h2, hr⟩ => by
    obtain rfl : o = false := by simpa [Ty.flat] using hf
    refine ⟨a, c, h1, h2, ?_⟩
    rcases hr with h | ⟨b, of, arr, E, fr, X', e1, e2, e3, e4, hx⟩
    · exact .inl h
    · simp only [Bool.not_true, Bool.and_false, Bool.false_eq_true, if_false, Bool.not_false, Bool.or_true, Bool.true_or] at hx e4
      obtain ⟨hS, _, rfl⟩ := hx
      exact .inr ⟨b, of, arr, E, fr, [], e1, e2, e3, by simpa using e4, by simp [hS]⟩
  | .ptr _ _, none, _, _, _, hr => hr
  | .ptr o t, some _, _, l, hf, ⟨b, of, arr, E, fr, X', h1, h2, h2', h3, hx⟩ => by
    obtain rfl : o = false := by simpa [Ty.flat] using hf
    simp only [Bool.not_true, Bool.and_false, Bool.false_eq_true, if_false, Bool.not_false, Bool.or_true, Bool.true_or] at hx h3
    obtain ⟨hS, _, rfl⟩ := hx
    exact ⟨b, of, arr, E, fr, [], h1, h2, h2', by simpa using h3, by simp [hS]⟩
  | .ref o t, _, _, l, hf, ⟨b, of, arr, E, fr, X', h1, h2, h2', h3, hx⟩ => by
    obtain rfl : o = false := by simpa [Ty.flat] using hf
    simp only [Bool.not_true, Bool.and_false, Bool.false_eq_true, if_false, Bool.not_false, Bool.or_true, Bool.true_or] at hx h3
    obtain ⟨hS, _, rfl⟩ := hx
    exact ⟨b, of, arr, E, fr, [], h1, h2, h2', by simpa using h3, by simp [hS]⟩
  | .map o k v, _, _, l, hf, ⟨b, ents, clock, X', h1, h2, hB, h3, hx⟩ => by
    obtain rfl : o = false := by simpa [Ty.flat] using hf
    simp only [Bool.not_true, Bool.and_false, Bool.false_eq_true, if_false, Bool.not_false, Bool.or_true, Bool.true_or] at hx h3
    obtain ⟨hS, _, rfl⟩ := hx
    exact ⟨b, ents, clock, [], h1, h2, hB, by simpa using h3, by simp [hS]⟩
  | .hole _, _, _, _, hf, _ => by simp [Ty.flat] at hf
  | .raw _ _, _, _, _, _, hr | .nils, _, _, _, _, hr | .nilp, _, _, _, _, hr => hr
end Go.Proofs.YthlpjdjipchdkaaDoor.E

namespace Go.Proofs.YthlpjdjipchdkaaDoor.E
open Go
set_option linter.unusedSimpArgs false
set_option linter.unusedVariables false
theorem nbeq {a b : Nat} (h : a ≠ b) : Nat.beq a b = false := by
  cases e : Nat.beq a b with
  | true => exact (h (Nat.eq_of_beq_eq_true e)).elim
  | false => rfl
theorem holesOf_shift : ∀ (t : Ty) (o : Nat), holesOf t o = (holesOf t 0).map fun p => (p.1 + o, p.2)
  | .hole k, o => by simp [holesOf]
  | .pair a b, o => by
    simp only [holesOf, List.map_append, Nat.zero_add]
    rw [holesOf_shift a o, holesOf_shift b (o + a.size), holesOf_shift b a.size]
    simp [List.map_map, Function.comp_def, Nat.add_assoc, Nat.add_comm, Nat.add_left_comm]
  | .int _, _ | .bool, _ | .str, _ | .unit, _ | .arr _ _, _ | .sl _ _, _ | .ptr _ _, _ | .ref _ _, _ | .map _ _ _, _ | .raw _ _, _ | .nils, _ | .nilp, _ => rfl
theorem holesOf_lt : ∀ {t : Ty} {o : Nat} {p : Nat × Nat}, p ∈ holesOf t o → o ≤ p.1 ∧ p.1 < o + t.size
  | .hole k, o, p, h => by simp [holesOf] at h; subst h; simp [Ty.size]
  | .pair a b, o, p, h => by
    simp only [holesOf, List.mem_append] at h
    rcases h with h | h
    · have := holesOf_lt h; simp only [Ty.size]; omega
    · have := holesOf_lt h; simp only [Ty.size]; omega
  | .int _, _, _, h | .bool, _, _, h | .str, _, _, h | .unit, _, _, h | .arr _ _, _, _, h | .sl _ _, _, _, h | .ptr _ _, _, _, h | .ref _ _, _, _, h | .map _ _ _, _, _, h | .raw _ _, _, _, h | .nils, _, _, h | .nilp, _, _, h => by
    simp [holesOf] at h
theorem holeIn_iff {k : Nat} : ∀ {t : Ty} {o : Nat}, holeIn k t = true ↔ ∃ p ∈ holesOf t o, p.2 = k
  | .hole j, o => by
    simp only [holeIn, holesOf, List.mem_singleton, exists_eq_left]
    exact ⟨fun h => Nat.eq_of_beq_eq_true h, fun h => by rw [h]; exact Nat.beq_refl k⟩
  | .pair a b, o => by
    simp only [holeIn, Bool.or_eq_true, holesOf, List.mem_append]
    rw [holeIn_iff (t := a) (o := o), holeIn_iff (t := b) (o := o + a.size)]
    constructor
    · rintro (⟨p, h1, h2⟩ | ⟨p, h1, h2⟩)
      · exact ⟨p, .inl h1, h2⟩
      · exact ⟨p, .inr h1, h2⟩
    · rintro ⟨p, h1 | h1, h2⟩
      · exact .inl ⟨p, h1, h2⟩
      · exact .inr ⟨p, h1, h2⟩
  | .int _, _ | .bool, _ | .str, _ | .unit, _ | .arr _ _, _ | .sl _ _, _ | .ptr _ _, _ | .ref _ _, _ | .map _ _ _, _ | .raw _ _, _ | .nils, _ | .nilp, _ => by simp [holeIn, holesOf]
theorem solid_iff : ∀ {t : Ty} {o : Nat}, solid t = true → holesOf t o = []
  | .hole j, o, h => by simp [solid] at h
  | .pair a b, o, h => by
    simp only [solid, Bool.and_eq_true] at h
    simp [holesOf, solid_iff h.1, solid_iff h.2]
  | .int _, _, _ | .bool, _, _ | .str, _, _ | .unit, _, _ | .arr _ _, _, _ | .sl _ _, _, _ | .ptr _ _, _, _ | .ref _ _, _, _ | .map _ _ _, _, _ | .raw _ _, _, _ | .nils, _, _ | .nilp, _, _ => rfl
theorem flat_solid : ∀ {t : Ty}, t.flat = true → solid t = true
  | .hole j, h => by simp [Ty.flat] at h
  | .pair a b, h => by
    simp only [Ty.flat, Bool.and_eq_true] at h
    simp [solid, flat_solid h.1, flat_solid h.2]
  | .int _, _ | .bool, _ | .str, _ | .unit, _ | .arr _ _, _ | .sl _ _, _ | .ptr _ _, _ | .ref _ _, _ | .map _ _ _, _ | .raw _ _, _ | .nils, _ | .nilp, _ => rfl
theorem fldOff_holes : ∀ {t : Ty} {i o : Nat} {a : Ty}, fldOff t i = some (o, a) → ∀ p ∈ holesOf a o, p ∈ holesOf t 0
  | .pair a b, 0, o, u, h, p, hp => by simp [fldOff] at h; obtain ⟨rfl, rfl⟩ := h; simp [holesOf, hp]
  | .pair a b, n + 1, o, u, h, p, hp => by
    simp only [fldOff] at h
    cases hf : fldOff b n with
    | none => simp [hf] at h
    | some q =>
      simp [hf] at h
      obtain ⟨rfl, rfl⟩ := h
      have h1 := fldOff_holes (t := b) (i := n) (o := q.1) (a := q.2) hf
      simp only [holesOf, List.mem_append, Nat.zero_add]
      refine .inr ?_
      rw [holesOf_shift] at hp ⊢
      obtain ⟨q', hq, rfl⟩ := List.mem_map.1 hp
      refine List.mem_map.2 ⟨(q'.1 + q.1, q'.2), h1 _ ?_, by simp; omega⟩
      rw [holesOf_shift]
      exact List.mem_map.2 ⟨q', hq, rfl⟩
  | .int _, _, _, _, h, _, _ | .bool, _, _, _, h, _, _ | .str, _, _, _, h, _, _ | .unit, _, _, _, h, _, _ | .arr _ _, _, _, _, h, _, _ | .sl _ _, _, _, _, h, _, _ | .ptr _ _, _, _, _, h, _, _ | .ref _ _, _, _, _, h, _, _ | .map _ _ _, _, _, _, h, _, _ | .hole _, _, _, _, h, _, _ | .raw _ _, _, _, _, h, _, _ | .nils, _, _, _, h, _, _ | .nilp, _, _, _, h, _, _ => by
    simp [fldOff] at h
theorem fldOff_solid : ∀ {t : Ty} {i o : Nat} {a : Ty}, fldOff t i = some (o, a) → solid t = true → solid a = true
  | .pair a b, 0, o, u, h, hs => by simp [fldOff] at h; obtain ⟨rfl, rfl⟩ := h; simp [solid] at hs; exact hs.1
  | .pair a b, n + 1, o, u, h, hs => by
    simp only [fldOff] at h
    cases hf : fldOff b n with
    | none => simp [hf] at h
    | some q =>
      simp [hf] at h
      obtain ⟨rfl, rfl⟩ := h
      simp [solid] at hs
      exact fldOff_solid (t := b) (i := n) (o := q.1) (a := q.2) hf hs.2
  | .int _, _, _, _, h, _ | .bool, _, _, _, h, _ | .str, _, _, _, h, _ | .unit, _, _, _, h, _ | .arr _ _, _, _, _, h, _ | .sl _ _, _, _, _, h, _ | .ptr _ _, _, _, _, h, _ | .ref _ _, _, _, _, h, _ | .map _ _ _, _, _, _, h, _ | .hole _, _, _, _, h, _ | .raw _ _, _, _, _, h, _ | .nils, _, _, _, h, _ | .nilp, _, _, _, h, _ => by
    simp [fldOff] at h
theorem selGet_solid : ∀ {s : List Sel} {t : Ty} {x : den t} {p : Pt}, selGet s t x = some p → solid t = true → solid p.t = true
  | [], t, x, p, h, hs => by simp [selGet] at h; subst h; exact hs
  | .f i :: s, t, x, p, h, hs => by
    simp only [selGet] at h
    cases hf : fldGet t x i with
    | none => simp [hf] at h
    | some q =>
      simp only [hf] at h
      cases hg : selGet s q.t q.a with
      | none => simp [hg] at h
      | some q' =>
        simp [hg] at h
        have h2 := selGet_solid hg (fldOff_solid (fldGet_off t x i q hf) hs)
        subst h; exact h2
  | .i n :: s, .arr m t, x, p, h, _ => by
    simp only [selGet] at h
    cases hso : solid t with
    | false => simp [hso] at h
    | true =>
      simp only [hso] at h
      cases hg : selGet s t (List.getD x n (dflt t)) with
      | none => rw [hg] at h; simp at h
      | some q' =>
        rw [hg] at h; simp at h
        have h2 := selGet_solid hg hso
        subst h; exact h2
  | .i n :: s, .int _, x, p, h, _ | .i n :: s, .bool, x, p, h, _ | .i n :: s, .str, x, p, h, _ | .i n :: s, .unit, x, p, h, _ | .i n :: s, .pair _ _, x, p, h, _
  | .i n :: s, .sl _ _, x, p, h, _ | .i n :: s, .ptr _ _, x, p, h, _ | .i n :: s, .ref _ _, x, p, h, _ | .i n :: s, .map _ _ _, x, p, h, _ | .i n :: s, .hole _, x, p, h, _ | .i n :: s, .raw _ _, x, p, h, _ | .i n :: s, .nils, x, p, h, _ | .i n :: s, .nilp, x, p, h, _ => by simp [selGet] at h
theorem selGet_holes : ∀ {s : List Sel} {t : Ty} {x : den t} {p : Pt}, selGet s t x = some p → ∀ q ∈ holesOf p.t p.o, q ∈ holesOf t 0
  | [], t, x, p, h, q, hq => by simp [selGet] at h; subst h; exact hq
  | .f i :: s, t, x, p, h, q, hq => by
    simp only [selGet] at h
    cases hf : fldGet t x i with
    | none => simp [hf] at h
    | some u =>
      simp only [hf] at h
      cases hg : selGet s u.t u.a with
      | none => simp [hg] at h
      | some q' =>
        simp [hg] at h
        subst h
        have h1 := selGet_holes hg
        refine fldOff_holes (fldGet_off t x i u hf) q ?_
        simp only at hq
        rw [holesOf_shift] at hq ⊢
        obtain ⟨z, hz, rfl⟩ := List.mem_map.1 hq
        refine List.mem_map.2 ⟨(z.1 + q'.o, z.2), h1 _ ?_, by simp; omega⟩
        rw [holesOf_shift]
        exact List.mem_map.2 ⟨z, hz, rfl⟩
  | .i n :: s, .arr m t, x, p, h, q, hq => by
    simp only [selGet] at h
    cases hso : solid t with
    | false => simp [hso] at h
    | true =>
      simp only [hso] at h
      cases hg : selGet s t (List.getD x n (dflt t)) with
      | none => rw [hg] at h; simp at h
      | some q' =>
        rw [hg] at h; simp at h
        have h2 := selGet_solid hg hso
        subst h
        rw [solid_iff h2] at hq
        exact absurd hq (by simp)
  | .i n :: s, .int _, x, p, h, _, _ | .i n :: s, .bool, x, p, h, _, _ | .i n :: s, .str, x, p, h, _, _ | .i n :: s, .unit, x, p, h, _, _ | .i n :: s, .pair _ _, x, p, h, _, _
  | .i n :: s, .sl _ _, x, p, h, _, _ | .i n :: s, .ptr _ _, x, p, h, _, _ | .i n :: s, .ref _ _, x, p, h, _, _ | .i n :: s, .map _ _ _, x, p, h, _, _ | .i n :: s, .hole _, x, p, h, _, _ | .i n :: s, .raw _ _, x, p, h, _, _ | .i n :: s, .nils, x, p, h, _, _ | .i n :: s, .nilp, x, p, h, _, _ => by simp [selGet] at h
theorem layB_refl : ∀ t : Ty, layB t t = true
  | .pair a b => by simp [layB, layB_refl a, layB_refl b]
  | .arr n t => by
    have : ∀ u : Ty, tyEq u u = true := by
      intro u
      induction u with
      | int k => cases k <;> rfl
      | bool | str | unit | nils | nilp => rfl
      | pair a b iha ihb => simp [tyEq, iha, ihb]
      | arr n t ih => simp [tyEq, ih]
      | sl o t ih => cases o <;> simp [tyEq, ih, boolEq]
      | ptr o t ih => cases o <;> simp [tyEq, ih, boolEq]
      | ref o t ih => cases o <;> simp [tyEq, ih, boolEq]
      | map o k v ihk ihv => cases o <;> simp [tyEq, ihk, ihv, boolEq]
      | hole k => simp [tyEq]
      | raw g n => cases g <;> simp [tyEq, boolEq]
    simp [layB, this]
  | .unit => rfl
  | .int _ | .bool | .str | .sl _ _ | .ptr _ _ | .ref _ _ | .map _ _ _ | .hole _ | .nils | .nilp => rfl
  | .raw _ n => by simp [layB]
theorem layB_size : ∀ {t u : Ty}, layB t u = true → t.size = u.size
  | .pair a b, u, h => by
    cases u <;> simp [layB] at h
    simp [Ty.size, layB_size h.1, layB_size h.2]
  | .arr n t, u, h => by
    cases u <;> simp [layB] at h
    obtain ⟨h1, h2⟩ := h
    rw [h1, tyEq_iff h2]
  | .unit, u, h => by cases u <;> simp [layB] at h; rfl
  | .int _, u, h | .bool, u, h | .str, u, h | .sl _ _, u, h | .ptr _ _, u, h | .ref _ _, u, h | .map _ _ _, u, h | .hole _, u, h | .nils, u, h | .nilp, u, h | .raw _ _, u, h => by
    cases u <;> simp [layB] at h <;> first | exact h | exact Nat.eq_of_beq_eq_true h | (simp [Ty.size] at h ⊢; try omega)
theorem layB_fld : ∀ {t u : Ty} {i o : Nat} {a : Ty}, layB t u = true → fldOff t i = some (o, a) → ∃ a', fldOff u i = some (o, a') ∧ layB a a' = true
  | .pair a b, u, 0, o, c, h, hf => by
    cases u <;> simp [layB] at h
    simp [fldOff] at hf
    obtain ⟨rfl, rfl⟩ := hf
    exact ⟨_, rfl, h.1⟩
  | .pair a b, u, n + 1, o, c, h, hf => by
    cases u <;> simp [layB] at h
    rename_i a' b'
    simp only [fldOff] at hf
    cases hq : fldOff b n with
    | none => simp [hq] at hf
    | some q =>
      simp [hq] at hf
      obtain ⟨rfl, rfl⟩ := hf
      obtain ⟨c', h1, h2⟩ := layB_fld (t := b) (i := n) (o := q.1) (a := q.2) h.2 hq
      exact ⟨c', by simp [fldOff, h1, layB_size h.1], h2⟩
  | .int _, _, _, _, _, _, h | .bool, _, _, _, _, _, h | .str, _, _, _, _, _, h | .unit, _, _, _, _, _, h | .arr _ _, _, _, _, _, _, h | .sl _ _, _, _, _, _, _, h | .ptr _ _, _, _, _, _, _, h | .ref _ _, _, _, _, _, _, h | .map _ _ _, _, _, _, _, _, h | .hole _, _, _, _, _, _, h | .raw _ _, _, _, _, _, _, h | .nils, _, _, _, _, _, h | .nilp, _, _, _, _, _, h => by
    simp [fldOff] at h
theorem layB_off : ∀ {s : List Sel} {t u : Ty} {o : Nat} {a : Ty}, layB t u = true → selOff s t = some (o, a) → ∃ a', selOff s u = some (o, a') ∧ layB a a' = true ∧ (selOk s t → selOk s u)
  | [], t, u, o, a, h, hs => by simp [selOff] at hs; obtain ⟨rfl, rfl⟩ := hs; exact ⟨u, rfl, h, fun _ => trivial⟩
  | .f i :: s, t, u, o, a, h, hs => by
    simp only [selOff] at hs
    cases hf : fldOff t i with
    | none => simp [hf] at hs
    | some q =>
      simp only [hf] at hs
      obtain ⟨b, h1, h2⟩ := layB_fld h hf
      cases hq : selOff s q.2 with
      | none => simp [hq] at hs
      | some q' =>
        simp [hq] at hs
        obtain ⟨rfl, rfl⟩ := hs
        obtain ⟨a', h3, h4, h5⟩ := layB_off (o := q'.1) (a := q'.2) h2 hq
        exact ⟨a', by simp [selOff, h1, h3], h4, fun hok => by simp only [selOk, hf, h1] at hok ⊢; exact h5 hok⟩
  | .i n :: s, .arr m t, u, o, a, h, hs => by
    cases u <;> simp [layB] at h
    obtain ⟨rfl, h2⟩ := h
    have := tyEq_iff h2
    subst this
    exact ⟨a, hs, layB_refl a, fun h => h⟩
  | .i n :: s, .int _, _, _, _, _, h | .i n :: s, .bool, _, _, _, _, h | .i n :: s, .str, _, _, _, _, h | .i n :: s, .unit, _, _, _, _, h | .i n :: s, .pair _ _, _, _, _, _, h
  | .i n :: s, .sl _ _, _, _, _, _, h | .i n :: s, .ptr _ _, _, _, _, _, h | .i n :: s, .ref _ _, _, _, _, _, h | .i n :: s, .map _ _ _, _, _, _, _, h | .i n :: s, .hole _, _, _, _, _, h | .i n :: s, .raw _ _, _, _, _, _, h | .i n :: s, .nils, _, _, _, _, h | .i n :: s, .nilp, _, _, _, _, h => by simp [selOff] at h
end Go.Proofs.YthlpjdjipchdkaaDoor.E

namespace Go.Proofs.YthlpjdjipchdkaaDoor.E
open Go
set_option linter.unusedSimpArgs false
set_option linter.unusedVariables false
section
variable {h : Hp} {S : Set'}
theorem fldPut_rep : ∀ {t : Ty} {x : den t} {i : Nat} {f : (u : Ty) → den u → Option TV} {w : TV}, fldPut t x i f = some w →
    ∃ o a, ∃ (v : den a) (z : TV), fldOff t i = some (o, a) ∧ fldGet t x i = some ⟨o, a, v⟩ ∧ f a v = some z ∧ (layB a z.t = true → layB t w.t = true) ∧
      (layB a z.t = true → ∀ p ∈ holesOf w.t 0, (p ∈ holesOf t 0 ∧ (p.1 < o ∨ o + a.size ≤ p.1)) ∨ p ∈ holesOf z.t o) ∧
      ∀ (l : Bool) (cs : List Value) (X : List Nat), Rep h S l t x cs X → ∃ A Y0 B, X = A ++ Y0 ++ B ∧ Rep h S l a v ((cs.drop o).take a.size) Y0 ∧
        ∀ c Y, Rep h S l z.t z.a c Y → Rep h S l w.t w.a (cs.take o ++ c ++ cs.drop (o + a.size)) (A ++ Y ++ B)
  | .pair a b, x, 0, f, w, hs => by
    simp only [fldPut] at hs
    cases hf : f a x.1 with
    | none => simp [hf] at hs
    | some z =>
      simp [hf] at hs
      subst hs
      refine ⟨0, a, x.1, z, rfl, rfl, hf, fun hl => by simp [layB, hl, layB_refl], fun hl p hp => ?_, ?_⟩
      · simp only [holesOf, List.mem_append, Nat.zero_add] at hp ⊢
        rcases hp with hp | hp
        · exact .inr hp
        · rw [← layB_size hl] at hp
          exact .inl ⟨.inr hp, .inr (holesOf_lt hp).1⟩
      · rintro l cs X ⟨c1, c2, X1, X2, h1, h2, h3, h4⟩
        have hl := h3.len
        refine ⟨[], X1, X2, by simpa using h2, ?_, ?_⟩
        · rw [h1]; simpa [← hl] using h3
        · intro c Y hc
          refine ⟨c, c2, Y, X2, ?_, by simp, hc, h4⟩
          rw [h1]; simp [← hl]
  | .pair a b, x, n + 1, f, w, hs => by
    simp only [fldPut] at hs
    cases hf : fldPut b x.2 n f with
    | none => simp [hf] at hs
    | some y =>
      simp [hf] at hs
      subst hs
      obtain ⟨o, u, v, z, ho, hg, hfw, hlay, hho, hrep⟩ := fldPut_rep hf
      refine ⟨a.size + o, u, v, z, by simp [fldOff, ho], by simp [fldGet, hg], hfw, fun hl => by simp [layB, hlay hl, layB_refl], fun hl p hp => ?_, ?_⟩
      · simp only [holesOf, List.mem_append, Nat.zero_add] at hp ⊢
        rcases hp with hp | hp
        · refine .inl ⟨.inl hp, .inl ?_⟩
          have := (holesOf_lt hp).2
          omega
        · rw [holesOf_shift] at hp
          obtain ⟨q, hq, rfl⟩ := List.mem_map.1 hp
          rcases hho hl q hq with ⟨g1, g2⟩ | g
          · refine .inl ⟨.inr ?_, by rcases g2 with g2 | g2 <;> simp <;> omega⟩
            rw [holesOf_shift]
            exact List.mem_map.2 ⟨q, g1, rfl⟩
          · refine .inr ?_
            rw [holesOf_shift] at g ⊢
            obtain ⟨q', hq', rfl⟩ := List.mem_map.1 g
            exact List.mem_map.2 ⟨q', hq', by simp; omega⟩
      · rintro l cs X ⟨c1, c2, X1, X2, h1, h2, h3, h4⟩
        have hl := h3.len
        obtain ⟨A, Y0, B, e1, e2, e3⟩ := hrep l c2 X2 h4
        refine ⟨X1 ++ A, Y0, B, by rw [h2, e1]; simp, ?_, ?_⟩
        · have : List.drop (a.size + o) cs = List.drop o c2 := by rw [h1, ← List.drop_drop, ← hl]; simp
          rw [this]; exact e2
        · intro c Y hc
          refine ⟨c1, _, X1, A ++ Y ++ B, ?_, by simp, h3, e3 c Y hc⟩
          rw [h1, ← hl, List.take_append, List.drop_append]
          have e4 : c1.length + o + u.size - c1.length = o + u.size := by omega
          simp [List.take_of_length_le, List.drop_of_length_le, Nat.add_assoc, e4]
  | .int _, _, _, _, _, hs | .bool, _, _, _, _, hs | .str, _, _, _, _, hs | .unit, _, _, _, _, hs | .arr _ _, _, _, _, _, hs | .sl _ _, _, _, _, _, hs | .ptr _ _, _, _, _, _, hs | .ref _ _, _, _, _, _, hs | .map _ _ _, _, _, _, _, hs | .hole _, _, _, _, _, hs | .raw _ _, _, _, _, _, hs | .nils, _, _, _, _, hs | .nilp, _, _, _, _, hs => by
    simp [fldPut] at hs
theorem selPut_rep : ∀ {s : List Sel} {u : Ty} {y : den u} {t : Ty} {x : den t} {w : TV}, selPut s u y t x = some w →
    ∃ o a, selOff s t = some (o, a) ∧ layB a u = true ∧ layB t w.t = true ∧
      (selOk s t → ∀ p ∈ holesOf w.t 0, (p ∈ holesOf t 0 ∧ (p.1 < o ∨ o + a.size ≤ p.1)) ∨ p ∈ holesOf u o) ∧
      ∀ (l : Bool) (cs : List Value) (X : List Nat), selOk s t → Rep h S l t x cs X → ∃ A Y0 B, X = A ++ Y0 ++ B ∧ (∀ q, selGet s t x = some q → Rep h S l q.t q.a ((cs.drop o).take a.size) Y0) ∧
        ∀ c Y, Rep h S l u y c Y → Rep h S l w.t w.a (cs.take o ++ c ++ cs.drop (o + a.size)) (A ++ Y ++ B)
  | [], u, y, t, x, w, hs => by
    simp only [selPut] at hs
    cases hl : layB t u with
    | false => simp [hl] at hs
    | true =>
      simp [hl] at hs
      subst hs
      refine ⟨0, t, rfl, hl, hl, fun _ p hp => .inr hp, ?_⟩
      intro l cs X _ hr
      have hlen := hr.len
      refine ⟨[], X, [], by simp, ?_, ?_⟩
      · intro q hq
        simp [selGet] at hq
        subst hq
        simpa [← hlen] using hr
      · intro c Y hc
        simpa [hlen, List.drop_of_length_le] using hc
  | .f i :: s, u, y, t, x, w, hs => by
    simp only [selPut] at hs
    obtain ⟨o, a, v, z, ho, hg, hfw, hlay, hho, hrep⟩ := fldPut_rep (h := h) (S := S) hs
    obtain ⟨o', a', ho', hl1, hl2, hho', hrep'⟩ := selPut_rep hfw
    refine ⟨o + o', a', by simp [selOff, ho, ho'], hl1, hlay hl2, ?_, ?_⟩
    · intro hok p hp
      simp only [selOk, ho] at hok
      have hb2 := selOff_le ho' hok
      rcases hho hl2 p hp with ⟨g1, g2⟩ | g
      · exact .inl ⟨g1, by rcases g2 with g2 | g2; exact .inl (by omega); exact .inr (by omega)⟩
      · rw [holesOf_shift] at g
        obtain ⟨q, hq, rfl⟩ := List.mem_map.1 g
        rcases hho' hok q hq with ⟨k1, k2⟩ | k
        · refine .inl ⟨?_, by rcases k2 with k2 | k2 <;> simp <;> omega⟩
          refine fldOff_holes ho _ ?_
          rw [holesOf_shift]
          exact List.mem_map.2 ⟨q, k1, rfl⟩
        · refine .inr ?_
          rw [holesOf_shift] at k ⊢
          obtain ⟨q', hq', rfl⟩ := List.mem_map.1 k
          exact List.mem_map.2 ⟨q', hq', by simp; omega⟩
    · intro l cs X hok hr
      simp only [selOk, ho] at hok
      obtain ⟨A, Y0, B, e1, e2, e3⟩ := hrep l cs X hr
      obtain ⟨A', Y0', B', e1', e2', e3'⟩ := hrep' l _ Y0 hok e2
      have hb1 := fldOff_le ho
      have hb2 := selOff_le ho' hok
      have h2 := hr.len
      refine ⟨A ++ A', Y0', B' ++ B, by rw [e1, e1']; simp, ?_, ?_⟩
      · intro q hq
        simp only [selGet, hg] at hq
        cases hs' : selGet s a v with
        | none => simp [hs'] at hq
        | some q' =>
          simp [hs'] at hq
          subst hq
          have := e2' q' hs'
          have e : List.take a'.size (List.drop o' (List.take a.size (List.drop o cs))) = List.take a'.size (List.drop (o + o') cs) := by
            rw [List.drop_take, List.take_take, List.drop_drop]
            congr 1; omega
          rw [e] at this; exact this
      · intro c Y hc
        have h3 := e3 _ _ (e3' c Y hc)
        have e := seg_seg cs c o a.size o' a'.size (by omega) (by omega)
        rw [e] at h3
        have eX : A ++ (A' ++ Y ++ B') ++ B = A ++ A' ++ Y ++ (B' ++ B) := by simp
        rw [eX] at h3; exact h3
  | .i n :: s, u, y, .arr m t, x, w, hs => by
    simp only [selPut] at hs
    cases hf : u.flat with
    | false => simp [hf] at hs
    | true =>
      simp only [hf] at hs
      cases hg : selSet s u y t (List.getD x n (E.dflt t)) with
      | none => rw [hg] at hs; simp at hs
      | some z =>
        rw [hg] at hs; simp at hs
        subst hs
        have hs' : selSet (.i n :: s) u y (.arr m t) x = some (List.set x n z) := by simp only [selSet]; rw [hg]
        obtain ⟨o, ho, hrep⟩ := selSet_rep (h := h) (S := S) hs' hf
        refine ⟨o, u, ho, layB_refl u, layB_refl _, fun _ p hp => by simp [holesOf] at hp, ?_⟩
        intro l cs X hok hr
        refine ⟨X, [], [], by simp, ?_, ?_⟩
        · intro q hq
          obtain ⟨Y, hY, hR, _⟩ := selGet_rep hq hok hr
          have hqo := selGet_off _ _ _ _ hq
          rw [ho] at hqo
          simp only [Option.some.injEq, Prod.mk.injEq] at hqo
          obtain ⟨g1, g2⟩ := hqo
          obtain ⟨qo, qt, qa⟩ := q
          simp only at g1 g2 hR ⊢
          subst g1; subst g2
          have := (Rep.flat hf hR).1
          subst this
          exact hR
        · intro c Y hc
          have := (Rep.flat hf hc).1
          subst this
          simpa using hrep l cs X hok hr c hc
  | .i n :: s, _, _, .int _, _, _, hs | .i n :: s, _, _, .bool, _, _, hs | .i n :: s, _, _, .str, _, _, hs | .i n :: s, _, _, .unit, _, _, hs | .i n :: s, _, _, .pair _ _, _, _, hs
  | .i n :: s, _, _, .sl _ _, _, _, hs | .i n :: s, _, _, .ptr _ _, _, _, hs | .i n :: s, _, _, .ref _ _, _, _, hs | .i n :: s, _, _, .map _ _ _, _, _, hs | .i n :: s, _, _, .hole _, _, _, hs | .i n :: s, _, _, .raw _ _, _, _, hs | .i n :: s, _, _, .nils, _, _, hs | .i n :: s, _, _, .nilp, _, _, hs => by simp [selPut] at hs
end
end Go.Proofs.YthlpjdjipchdkaaDoor.E

namespace Go.Proofs.YthlpjdjipchdkaaDoor.E
open Go
set_option linter.unusedSimpArgs false
set_option linter.unusedVariables false
def hpOf (w : World) : Hp := fun b => w.heap[b]?
def restOf (w : World) : Os × Array (Nat × ByteArray) := (w.os, w.output)
def Sx (L I : Set') (len : Bool) : Set' := fun b => I b ∨ (len = true ∧ L b)
def wrapsB (d : TypeDesc) (z : Value) : Bool :=
  match d, z with
  | .struct _, .agg _ => true
  | .array _ _, .agg _ => true
  | .struct _, _ => false
  | .array _ _, _ => false
  | _, .agg _ => false
  | _, _ => true
structure Ctx where
  P : Program
  T : Tab
  h : Hp
  n : Nat
  L : Set'
  I : Set'
  X : Set'
  z : Os × Array (Nat × ByteArray)
  G : Glob
  tk : List (Array Value)
  Iok : ∀ b, I b → b < n ∧ ¬ X b
  Lok : ∀ b, L b → b < n ∧ ¬ X b
  ok : ∀ t i, T t = some i → P.underlying t = some i.d ∧ ∃ j z, P.info? t = some j ∧ j.size = i.size ∧ j.bytes = i.bytes ∧ j.zero = some z ∧ z.cells.toList = i.zero
  eqs : ∀ t i, T t = some i → i.eq = true → P.stoodInHeld t = false ∧ P.eqGuardType P.depth t = false
  zag : ∀ t i, T t = some i → ∀ j z, P.info? t = some j → j.zero = some z → wrapsB i.d z = true
  gok : ∀ g v, G g = some v → Rep h (Sx L I true) true (.ref false v.t) v.a [.pointer (some ⟨g, 0, none⟩)] []
def ptrOf (v : Value) (o : Nat) : Value :=
  match v with
  | .pointer (some a) => .pointer (some ⟨a.block, a.off + o, none⟩)
  | .slice (some a) _ _ => .pointer (some ⟨a.block, a.off + o, none⟩)
  | _ => undef
def Root.off (s : List Sel) : Root → Option (Nat × Ty)
  | .box _ t _ => selOff s t
  | .arr _ _ t _ => match s with
    | .i n :: s => match selOff s t with | some (o, u) => some (n * t.size + o, u) | none => none
    | _ => none
  | .map _ _ _ _ _ => none
def Root.ok (s : List Sel) : Root → Prop
  | .box _ t _ => selOk s t
  | .arr _ _ t xs => match s with
    | .i n :: s => n < xs.length ∧ selOk s t
    | _ => False
  | .map _ _ _ _ _ => False
def Root.like : Root → Root → Prop
  | .box _ t _, .box _ u _ => layB t u = true
  | .arr _ _ t xs, .arr _ _ u ys => t = u ∧ xs.length = ys.length
  | .map _ _ _ _ _, .map _ _ _ _ _ => True
  | _, _ => False
def LikeO : Option Root → Option Root → Prop
  | some R, some R' => R.like R'
  | none, none => True
  | _, _ => False
def RMz {α β : Type} (q : α → Bool) (K : α → List Value → List Nat → Prop) (V : β → List Value → List Nat → Prop) (wk wv : List Value → Value) (n : Nat) :
    List (α × β) → List MapEntry → List Nat → Prop
  | [], es, X => es = [] ∧ X = []
  | x :: xs, es, X => ∃ e r ck cv X1 X2, es = e :: r ∧ X = X1 ++ X2 ∧ e.key = wk ck ∧ e.val = wv cv ∧ K x.1 ck [] ∧ (if q x.1 then cv.length = n ∧ X1 = [] ∧ RM K V wk wv xs r X2 else V x.2 cv X1 ∧ RMz q K V wk wv n xs r X2)
def HoleE {α β : Type} (q : α → Bool) (v : Value) : List (α × β) → List MapEntry → Prop
  | x :: xs, e :: es => if q x.1 then e.val = v else HoleE q v xs es
  | _, _ => True
def zq {k : Ty} : Option (den k × Nat) → den k → Bool
  | none, _ => false
  | some (y, _), x => denEq k y x
def RootR (h : Hp) (L I : Set') (v : Value) : Root → List Nat → Prop
  | .box l t a, X => Rep h (Sx L I l) false (.ref true t) a [v] X
  | .arr f l t xs, X => Rep h (Sx L I l) false (.sl true t) xs [v] X ∧ (f = true → ∃ a, v = .slice a xs.length xs.length)
  | .map l k vt es z, X => ∃ b ents clock X', v = .map (some b) ∧ h b = some (.map ents clock) ∧ Born ents clock ∧
      RMz (zq z) (Rep h (Sx L I l) false k) (Rep h (Sx L I l) false vt) (wrapV k) (wrapV vt) vt.size es ents.toList X' ∧ X = b :: X'
def Holes (β : Nat → Value) (ρ : List (Nat × Root)) (t : Ty) (cs : List Value) : Prop :=
  ∀ p ∈ holesOf t 0, look ρ p.2 ≠ none → cs[p.1]? = some (β p.2)
def RootH (h : Hp) (β : Nat → Value) (ρ : List (Nat × Root)) (v : Value) : Root → Prop
  | .box _ t _ => ∃ b arr E fr, v = .pointer (some ⟨b, 0, none⟩) ∧ h b = some (.cells arr E fr) ∧ Holes β ρ t arr.toList
  | .arr _ _ _ _ => True
  | .map _ k vt es z => match z with
    | none => True
    | some (y, j) => look ρ j ≠ none → ∃ (b : Nat) (ents : Array MapEntry) (clock : Nat), v = .map (some b) ∧ h b = some (.map ents clock) ∧ HoleE (denEq k y) (β j) es ents.toList
def Root.holes (R : Root) (k : Nat) : Bool :=
  match R with
  | .box _ t _ => holeIn k t
  | .map _ _ _ _ (some (_, j)) => Nat.beq j k
  | _ => false
def subOf (v : Value) (sz lo n : Nat) (u : Value) : Prop :=
  ∃ a m c a' c', v = .slice a m c ∧ u = .slice a' n c' ∧ n ≤ c' ∧ lo + c' ≤ c ∧
    ((a = a ∧ a' = a' ∧ c' = 0) ∨ ∃ b o k, a = some ⟨b, o, none⟩ ∧ a' = some ⟨b, o + k * sz, none⟩ ∧ k + c' ≤ c ∧ (c' = 0 ∨ k = lo))
def SVR0 (h : Hp) (L I : Set') (β : Nat → Value) (ρ : List (Nat × Root)) : SV → Value → Prop
  | .x, _ => True
  | .np, v => v = .pointer none
  | .nl, v => ∃ a, v = .slice a 0 0
  | .v len t a, v => ∃ cs, Rep h (Sx L I len) true t a cs [] ∧ v = wrapV t cs ∧ Holes β ρ t cs
  | .q len t a, v => Rep h (Sx L I len) true (.ref false t) a [v] []
  | .p r s, v => ∃ R o u, look ρ r = some R ∧ R.off s = some (o, u) ∧ R.ok s ∧ v = ptrOf (β r) o
  | .sf r, v => ∃ f l t xs, look ρ r = some (.arr f l t xs) ∧ v = β r
  | .s r lo n, v => ∃ f l t xs, look ρ r = some (.arr f l t xs) ∧ lo + n ≤ xs.length ∧ subOf (β r) t.size lo n v
  | .mp r, v => ∃ l k vt es z, look ρ r = some (.map l k vt es z) ∧ v = β r
  | .fn _ _ _, _ => False
  | .tup _, _ => False
def All2 {α β : Type} (R : α → β → Prop) : List α → List β → Prop
  | [], [] => True
  | a :: l, b :: m => R a b ∧ All2 R l m
  | _, _ => False
def SVR (h : Hp) (L I : Set') (β : Nat → Value) (ρ : List (Nat × Root)) : SV → Value → Prop
  | .tup l, v => ∃ vs : List Value, v = .tuple vs.toArray ∧ All2 (SVR0 h L I β ρ) l vs
  | .fn f a b, v => ∃ us vs : List Value, v = .func (.func f) us.toArray vs.toArray ∧ All2 (SVR0 h L I β ρ) a us ∧ All2 (SVR0 h L I β ρ) b vs
  | sv, v => SVR0 h L I β ρ sv v
theorem SVR_of0 {h L I β ρ sv v} (hs : SVR0 h L I β ρ sv v) : SVR h L I β ρ sv v := by
  cases sv <;> first | exact hs | exact hs.elim
def FrameR (h : Hp) (L I : Set') (β : Nat → Value) (ρ : List (Nat × Root)) (t : List (Nat × SV)) (tm : Array Value) : Prop :=
  ∀ i, SVR h L I β ρ (find t i) (tm.getD i undef)
structure Inv (C : Ctx) (I : Set') (β : Nat → Value) (F : Nat → List Nat) (σ : St) (w : World) (tm : Array Value) : Prop where
  size : tm.size = σ.n
  slots : ∀ i, SVR (hpOf w) C.L I β σ.r (find σ.t i) (tm.getD i undef)
  conds : ∀ k e u v, (k, e, u, v) ∈ σ.c → tm.getD e undef = .bool u → SVR (hpOf w) C.L I β σ.r v (tm.getD k undef)
  undefs : ∀ k e u v, (k, e, u, v) ∈ σ.c → tm.getD e undef ≠ .bool u → tm.getD k undef = undef
  roots : ∀ r R, look σ.r r = some R → RootR (hpOf w) C.L I (β r) R (F r)
  holes : ∀ r R, look σ.r r = some R → RootH (hpOf w) β σ.r (β r) R
  nodup : ∀ r R, look σ.r r = some R → (F r).Nodup
  disj : ∀ r r' R R', r ≠ r' → look σ.r r = some R → look σ.r r' = some R' → ∀ b ∈ F r, b ∉ F r'
  own : ∀ r R, look σ.r r = some R → ∀ b ∈ F r, ¬ I b ∧ ¬ C.L b ∧ b < w.heap.size ∧ (C.X b ∨ C.n ≤ b)
  shared : ∀ b, I b → b < w.heap.size ∧ (C.I b ∨ C.X b ∨ C.n ≤ b)
  sub : ∀ b, C.I b → I b
  frame : ∀ b, b < C.n → ¬ C.X b → hpOf w b = C.h b
  grow : C.n ≤ w.heap.size
  rest : restOf w = C.z
  frames : All2 (FrameR (hpOf w) C.L I β σ.r) σ.k C.tk
theorem look_del_ne {l : List (Nat × Root)} {r n : Nat} (h : r ≠ n) : look (del l n) r = look l r := by
  induction l with
  | nil => rfl
  | cons p l ih =>
    obtain ⟨k, v⟩ := p
    simp only [del, look]
    by_cases hk : k = n
    · subst hk
      have : Nat.beq k r = false := nbeq fun e => h e.symm
      simp [this, ih, Nat.beq_refl]
    · have : Nat.beq k n = false := nbeq hk
      simp only [this, look]
      rw [ih]
theorem look_del_same {l : List (Nat × Root)} {n : Nat} : look (del l n) n = none := by
  induction l with
  | nil => rfl
  | cons p l ih =>
    obtain ⟨k, v⟩ := p
    simp only [del]
    by_cases hk : k = n
    · subst hk; simp [ih]
    · have : Nat.beq k n = false := nbeq hk
      simp only [this, look]
      exact ih
theorem look_del {l : List (Nat × Root)} {r n : Nat} {R : Root} (h : look (del l n) r = some R) : r ≠ n ∧ look l r = some R := by
  by_cases e : r = n
  · subst e; rw [look_del_same] at h; cases h
  · exact ⟨e, by rwa [look_del_ne e] at h⟩
theorem look_upd_ne {l : List (Nat × Root)} {r n : Nat} {R : Root} (h : r ≠ n) : look (upd l n R) r = look l r := by
  induction l with
  | nil => rfl
  | cons p l ih =>
    obtain ⟨k, v⟩ := p
    simp only [upd, look]
    by_cases hk : k = n
    · subst hk
      have : Nat.beq k r = false := nbeq fun e => h e.symm
      simp [this, look, Nat.beq_refl]
    · have : Nat.beq k n = false := nbeq hk
      simp only [this, look]
      rw [ih]
theorem look_upd_same {l : List (Nat × Root)} {n : Nat} {R R' : Root} (h : look l n = some R') : look (upd l n R) n = some R := by
  induction l with
  | nil => cases h
  | cons p l ih =>
    obtain ⟨k, v⟩ := p
    simp only [upd]
    by_cases hk : k = n
    · subst hk; simp [look]
    · have : Nat.beq k n = false := nbeq hk
      simp only [this, look] at h ⊢
      exact ih h
theorem look_cons_same {l : List (Nat × Root)} {n : Nat} {R : Root} : look ((n, R) :: l) n = some R := by simp [look]
theorem look_cons_ne {l : List (Nat × Root)} {n r : Nat} {R : Root} (h : r ≠ n) : look ((n, R) :: l) r = look l r := by
  have : Nat.beq n r = false := nbeq fun e => h e.symm
  simp [look, this]
theorem find_mapT {f : SV → SV} (hf : f .x = .x) : ∀ (l : List (Nat × SV)) (i : Nat), find (mapT f l) i = f (find l i)
  | [], i => by simp [mapT, find, hf]
  | (k, v) :: l, i => by
    simp only [mapT, find]
    cases Nat.beq k i with
    | true => rfl
    | false => exact find_mapT hf l i
theorem find_cons_same {l : List (Nat × SV)} {n : Nat} {sv : SV} : find ((n, sv) :: l) n = sv := by simp [find]
theorem find_cons_ne {l : List (Nat × SV)} {n i : Nat} {sv : SV} (h : i ≠ n) : find ((n, sv) :: l) i = find l i := by
  have : Nat.beq n i = false := nbeq fun e => h e.symm
  simp [find, this]
theorem force_eq {α : Type} (sv : SV) (k : SV → α) : sv.force k = k sv := by cases sv <;> rfl
section
variable {h h' : Hp} {L I I' : Set'} {β β' : Nat → Value} {ρ ρ' : List (Nat × Root)}
theorem Sx.mono (hI : ∀ b, I b → I' b ∧ h' b = h b) (hL : ∀ b, L b → h' b = h b) (len : Bool) : ∀ b, Sx L I len b → Sx L I' len b ∧ h' b = h b := by
  rintro b (hb | ⟨hl, hb⟩)
  · exact ⟨.inl (hI b hb).1, (hI b hb).2⟩
  · exact ⟨.inr ⟨hl, hb⟩, hL b hb⟩
theorem Root.like.refl (R : Root) : R.like R := by cases R <;> simp [Root.like, layB_refl]
theorem LikeO.refl (o : Option Root) : LikeO o o := by cases o <;> simp [LikeO, Root.like.refl]
theorem Root.like.off {R R' : Root} (hl : R.like R') {s : List Sel} {o : Nat} {u : Ty} (h : R.off s = some (o, u)) (hk : R.ok s) : ∃ u', R'.off s = some (o, u') ∧ R'.ok s := by
  cases R <;> cases R' <;> simp only [Root.like] at hl
  · obtain ⟨a', h1, _, h3⟩ := layB_off hl h
    exact ⟨a', h1, h3 hk⟩
  · obtain ⟨rfl, hlen⟩ := hl
    refine ⟨u, h, ?_⟩
    cases s with
    | nil => exact hk
    | cons a s => cases a with
      | f i => exact hk
      | i n => exact ⟨hlen ▸ hk.1, hk.2⟩
  · simp [Root.off] at h
def Same (β β' : Nat → Value) (ρ ρ' : List (Nat × Root)) (r : Nat) : Prop := LikeO (look ρ r) (look ρ' r) ∧ (look ρ r ≠ none → β' r = β r)
theorem Same.refl (r : Nat) : Same β β ρ ρ r := ⟨LikeO.refl _, fun _ => rfl⟩
theorem Same.some {r : Nat} {R : Root} (hs : Same β β' ρ ρ' r) (hl : look ρ r = some R) : ∃ R', look ρ' r = some R' ∧ R.like R' ∧ β' r = β r := by
  obtain ⟨h1, h2⟩ := hs
  rw [hl] at h1
  cases e : look ρ' r with
  | none => rw [e] at h1; exact h1.elim
  | some R' => rw [e] at h1; exact ⟨R', rfl, h1, h2 (by rw [hl]; simp)⟩
theorem Same.back {r : Nat} (hs : Same β β' ρ ρ' r) (hl : look ρ' r ≠ none) : look ρ r ≠ none := by
  obtain ⟨h1, _⟩ := hs
  cases e : look ρ r with
  | none =>
    rw [e] at h1
    cases e' : look ρ' r with
    | none => exact absurd e' hl
    | some R' => rw [e'] at h1; exact h1.elim
  | some R => simp
theorem Holes.mono {t : Ty} {cs : List Value} (hr : ∀ r, holeIn r t = true → Same β β' ρ ρ' r) (hh : Holes β ρ t cs) : Holes β' ρ' t cs := by
  intro p hp hl
  have hs := hr p.2 (holeIn_iff.2 ⟨p, hp, rfl⟩)
  have hl' := hs.back hl
  rw [hh p hp hl', hs.2 hl']
theorem Holes.solid {t : Ty} {cs : List Value} (hs : solid t = true) : Holes β ρ t cs := by
  intro p hp
  rw [solid_iff hs] at hp
  exact absurd hp (by simp)
theorem SVR0.mono {sv : SV} {v : Value} (hI : ∀ b, I b → I' b ∧ h' b = h b) (hL : ∀ b, L b → h' b = h b)
    (hr : ∀ r, sv.uses0 r = true → Same β β' ρ ρ' r) (hs : SVR0 h L I β ρ sv v) : SVR0 h' L I' β' ρ' sv v := by
  cases sv with
  | x => trivial
  | np => exact hs
  | nl => exact hs
  | v len t a =>
    obtain ⟨cs, hr', hv, hh⟩ := hs
    exact ⟨cs, Rep.keep (Sx.mono hI hL len) (by simp) hr', hv, hh.mono hr⟩
  | q len t a => exact Rep.keep (Sx.mono hI hL len) (by simp) hs
  | p r s =>
    obtain ⟨R, o, u, h1, h2, h3, h4⟩ := hs
    obtain ⟨R', e1, e2, e3⟩ := (hr r (by simp [SV.uses0])).some h1
    obtain ⟨u', e4, e5⟩ := e2.off h2 h3
    exact ⟨R', o, u', e1, e4, e5, by rw [e3]; exact h4⟩
  | sf r =>
    obtain ⟨f, l, t, xs, h1, h2⟩ := hs
    obtain ⟨R', e1, e2, e3⟩ := (hr r (by simp [SV.uses0])).some h1
    cases R' with
    | arr f' l' t' ys => exact ⟨f', l', t', ys, e1, by rw [e3]; exact h2⟩
    | box _ _ _ => exact e2.elim
    | map _ _ _ _ _ => exact e2.elim
  | s r lo n =>
    obtain ⟨f, l, t, xs, h1, h2, h3⟩ := hs
    obtain ⟨R', e1, e2, e3⟩ := (hr r (by simp [SV.uses0])).some h1
    cases R' with
    | arr f' l' t' ys =>
      obtain ⟨rfl, hlen⟩ := e2
      exact ⟨f', l', t, ys, e1, hlen ▸ h2, by rw [e3]; exact h3⟩
    | box _ _ _ => exact e2.elim
    | map _ _ _ _ _ => exact e2.elim
  | mp r =>
    obtain ⟨l, k, vt, es, z, h1, h2⟩ := hs
    obtain ⟨R', e1, e2, e3⟩ := (hr r (by simp [SV.uses0])).some h1
    cases R' with
    | map l' k' v' es' z' => exact ⟨l', k', v', es', z', e1, by rw [e3]; exact h2⟩
    | box _ _ _ => exact e2.elim
    | arr _ _ _ _ => exact e2.elim
  | fn _ _ _ => exact hs.elim
  | tup l => exact hs.elim
theorem All2.imp {α β : Type} {R R' : α → β → Prop} : ∀ {l : List α} {m : List β}, (∀ a ∈ l, ∀ b, R a b → R' a b) → All2 R l m → All2 R' l m
  | [], [], _, _ => trivial
  | _ :: _, [], _, h => h.elim
  | [], _ :: _, _, h => h.elim
  | a :: l, b :: m, hi, ⟨h1, h2⟩ => ⟨hi a (by simp) b h1, All2.imp (fun a ha => hi a (by simp [ha])) h2⟩
theorem anyUses0_mem {r : Nat} : ∀ {l : List SV} {v : SV}, v ∈ l → v.uses0 r = true → anyUses0 r l = true
  | w :: l, v, hm, hu => by
    simp only [anyUses0, Bool.or_eq_true]
    rcases List.mem_cons.1 hm with rfl | hm
    · exact .inl hu
    · exact .inr (anyUses0_mem hm hu)
theorem SVR.mono {sv : SV} {v : Value} (hI : ∀ b, I b → I' b ∧ h' b = h b) (hL : ∀ b, L b → h' b = h b)
    (hr : ∀ r, sv.uses r = true → Same β β' ρ ρ' r) (hs : SVR h L I β ρ sv v) : SVR h' L I' β' ρ' sv v := by
  cases sv with
  | tup l =>
    obtain ⟨vs, hv, ha⟩ := hs
    exact ⟨vs, hv, ha.imp fun a hm b => SVR0.mono hI hL fun r hu => hr r (anyUses0_mem hm hu)⟩
  | fn f a b =>
    obtain ⟨us, vs, hv, h1, h2⟩ := hs
    exact ⟨us, vs, hv, h1.imp fun sv hm b => SVR0.mono hI hL fun r hu => hr r (by simp [SV.uses, anyUses0_mem hm hu]), h2.imp fun sv hm b => SVR0.mono hI hL fun r hu => hr r (by simp [SV.uses, anyUses0_mem hm hu])⟩
  | x => exact trivial
  | np => exact SVR0.mono (sv := .np) hI hL (fun r hu => hr r hu) hs
  | nl => exact SVR0.mono (sv := .nl) hI hL (fun r hu => hr r hu) hs
  | v l t a => exact SVR0.mono (sv := .v l t a) hI hL (fun r hu => hr r hu) hs
  | q l t a => exact SVR0.mono (sv := .q l t a) hI hL (fun r hu => hr r hu) hs
  | p k z => exact SVR0.mono (sv := .p k z) hI hL (fun r hu => hr r hu) hs
  | sf k => exact SVR0.mono (sv := .sf k) hI hL (fun r hu => hr r hu) hs
  | s k lo n => exact SVR0.mono (sv := .s k lo n) hI hL (fun r hu => hr r hu) hs
  | mp k => exact SVR0.mono (sv := .mp k) hI hL (fun r hu => hr r hu) hs
theorem RMz.mono_mem {α β : Type} {q : α → Bool} {K K' : α → List Value → List Nat → Prop} {V V' : β → List Value → List Nat → Prop} {wk wv : List Value → Value} {n : Nat} :
    ∀ {xs : List (α × β)} {es X}, (∀ x c, K x c [] → K' x c []) → (∀ x c Y, (∀ b ∈ Y, b ∈ X) → V x c Y → V' x c Y) → RMz q K V wk wv n xs es X → RMz q K' V' wk wv n xs es X
  | [], _, _, _, _, h => h
  | x :: _, _, _, hk, hv, ⟨e, r, ck, cv, X1, X2, h1, h2, h3, h4, h5, h6⟩ => by
    refine ⟨e, r, ck, cv, X1, X2, h1, h2, h3, h4, hk _ _ h5, ?_⟩
    split at h6
    · rename_i hq; rw [if_pos hq]; exact ⟨h6.1, h6.2.1, RM.mono_mem hk (fun x c Y hY => hv x c Y (by subst h2; intro b hb; have := hY b hb; simp [this])) h6.2.2⟩
    · rename_i hq; rw [if_neg hq]; exact ⟨hv _ _ _ (by subst h2; intro b hb; simp [hb]) h6.1, RMz.mono_mem hk (fun x c Y hY => hv x c Y (by subst h2; intro b hb; have := hY b hb; simp [this])) h6.2⟩
theorem RootR.keep {R : Root} {v : Value} {X : List Nat} (hI : ∀ b, I b → I' b ∧ h' b = h b) (hL : ∀ b, L b → h' b = h b) (hX : ∀ b ∈ X, h' b = h b) (hR : RootR h L I v R X) : RootR h' L I' v R X := by
  cases R with
  | box l t a => exact Rep.keep (Sx.mono hI hL l) hX hR
  | arr f l t xs => exact ⟨Rep.keep (Sx.mono hI hL l) hX hR.1, hR.2⟩
  | map l k vt es z =>
    obtain ⟨b, ents, clock, X', h1, h2, h3, h4, rfl⟩ := hR
    refine ⟨b, ents, clock, X', h1, by rw [hX b (by simp)]; exact h2, h3, RMz.mono_mem (fun _ _ => Rep.keep (Sx.mono hI hL l) (by simp)) (fun _ _ Y hY => Rep.keep (Sx.mono hI hL l) (fun b hb => hX b (by simp [hY b hb]))) h4, rfl⟩
theorem RootH.keep {R : Root} {v : Value} {X : List Nat} (hX : ∀ b ∈ X, h' b = h b) (hR : RootR h L I v R X) (hs : ∀ r, R.holes r = true → Same β β' ρ ρ' r) (hh : RootH h β ρ v R) : RootH h' β' ρ' v R := by
  cases R with
  | box l t a =>
    obtain ⟨b, arr, E, fr, h1, h2, h3⟩ := hh
    have hb : b ∈ X := by
      obtain ⟨b', o, arr', E', fr', X', e1, e2, e3, e4, e5⟩ := hR
      simp only [Bool.and_true, if_true, Bool.not_false] at e5
      simp only [List.cons.injEq, and_true] at e1
      rw [e1] at h1
      simp only [Value.pointer.injEq, Option.some.injEq, Addr.mk.injEq] at h1
      rw [e5.1]; simp [h1.1]
    exact ⟨b, arr, E, fr, h1, by rw [hX b hb]; exact h2, h3.mono hs⟩
  | arr f l t xs => trivial
  | map l k vt es z =>
    cases z with
    | none => trivial
    | some p =>
      obtain ⟨y, j⟩ := p
      intro hl
      have hsj := hs j (by simp [Root.holes])
      have hl' := hsj.back hl
      obtain ⟨b, ents, clock, h1, h2, h3⟩ := hh hl'
      have hb : b ∈ X := by
        obtain ⟨b', ents', clock', X', e1, e2, e3, e4, rfl⟩ := hR
        rw [e1] at h1
        simp only [Value.map.injEq, Option.some.injEq] at h1
        simp [h1]
      exact ⟨b, ents, clock, h1, by rw [hX b hb]; exact h2, by rw [hsj.2 hl']; exact h3⟩
theorem frames_map {f : SV → SV} (hf : f .x = .x) {h' : Hp} {L I' : Set'} {β' : Nat → Value} {ρ' : List (Nat × Root)} (hs : ∀ sv v, SVR h L I β ρ sv v → SVR h' L I' β' ρ' (f sv) v) :
    ∀ {l : List (List (Nat × SV))} {m : List (Array Value)}, All2 (FrameR h L I β ρ) l m → All2 (FrameR h' L I' β' ρ') (mapK f l) m
  | [], [], _ => trivial
  | _ :: _, [], h => h.elim
  | [], _ :: _, h => h.elim
  | a :: l, b :: m, ⟨h1, h2⟩ => ⟨fun i => by rw [find_mapT hf]; exact hs _ _ (h1 i), frames_map hf hs h2⟩
theorem frames_mono {h' : Hp} {L I' : Set'} {β' : Nat → Value} {ρ' : List (Nat × Root)} (hs : ∀ sv v, SVR h L I β ρ sv v → SVR h' L I' β' ρ' sv v) :
    ∀ {l : List (List (Nat × SV))} {m : List (Array Value)}, All2 (FrameR h L I β ρ) l m → All2 (FrameR h' L I' β' ρ') l m
  | [], [], _ => trivial
  | _ :: _, [], h => h.elim
  | [], _ :: _, h => h.elim
  | a :: l, b :: m, ⟨h1, h2⟩ => ⟨fun i => hs _ _ (h1 i), frames_mono hs h2⟩
end
end Go.Proofs.YthlpjdjipchdkaaDoor.E

namespace Go.Proofs.YthlpjdjipchdkaaDoor.E
open Go
set_option linter.unusedSimpArgs false
set_option linter.unusedVariables false
section
variable {C : Ctx} {I : Set'} {β : Nat → Value} {F : Nat → List Nat} {σ : St} {w : World} {tm : Array Value}
structure RootOk (C : Ctx) (I : Set') (β : Nat → Value) (ρ : List (Nat × Root)) (w : World) (v : Value) (R : Root) (X : List Nat) : Prop where
  rep : RootR (hpOf w) C.L I v R X
  holes : RootH (hpOf w) β ρ v R
  nodup : X.Nodup
  own : ∀ b ∈ X, ¬ I b ∧ ¬ C.L b ∧ b < w.heap.size ∧ (C.X b ∨ C.n ≤ b)
theorem Inv.root (hi : Inv C I β F σ w tm) {r : Nat} {R : Root} (hl : look σ.r r = some R) : RootOk C I β σ.r w (β r) R (F r) :=
  ⟨hi.roots r R hl, hi.holes r R hl, hi.nodup r R hl, hi.own r R hl⟩
theorem Inv.turn (hi : Inv C I β F σ w tm) {σ' : St} {w' : World} {I' : Set'} {β' : Nat → Value} {F' : Nat → List Nat} {f : SV → SV} (hf : f .x = .x)
    (hn : σ'.n = σ.n) (ht : ∀ i, find σ'.t i = f (find σ.t i)) (hk : σ'.k = mapK f σ.k) (hc : ∀ k e u v, (k, e, u, v) ∈ σ'.c → ∃ v0, (k, e, u, v0) ∈ σ.c ∧ v = f v0)
    (hsz : w.heap.size ≤ w'.heap.size) (hz : restOf w' = restOf w)
    (hI : ∀ b, I b → I' b) (hsh : ∀ b, I' b → I b ∨ (b < w'.heap.size ∧ (C.X b ∨ C.n ≤ b)))
    (hfr : ∀ b, b < C.n → ¬ C.X b → hpOf w' b = hpOf w b)
    (hS : ∀ sv v, SVR (hpOf w) C.L I β σ.r sv v → SVR (hpOf w') C.L I' β' σ'.r (f sv) v)
    (hR : ∀ r R, look σ'.r r = some R → RootOk C I' β' σ'.r w' (β' r) R (F' r))
    (hd : ∀ r r' R R', r ≠ r' → look σ'.r r = some R → look σ'.r r' = some R' → ∀ b ∈ F' r, b ∉ F' r') : Inv C I' β' F' σ' w' tm where
  size := by rw [hn]; exact hi.size
  slots := fun i => by rw [ht]; exact hS _ _ (hi.slots i)
  conds := fun k e u v hm hb => by
    obtain ⟨v0, h1, rfl⟩ := hc k e u v hm
    exact hS _ _ (hi.conds k e u v0 h1 hb)
  undefs := fun k e u v hm hb => by
    obtain ⟨v0, h1, rfl⟩ := hc k e u v hm
    exact hi.undefs k e u v0 h1 hb
  roots := fun r R hl => (hR r R hl).rep
  holes := fun r R hl => (hR r R hl).holes
  nodup := fun r R hl => (hR r R hl).nodup
  disj := hd
  own := fun r R hl => (hR r R hl).own
  shared := fun b hb => by
    rcases hsh b hb with h | h
    · have := hi.shared b h; exact ⟨by omega, this.2⟩
    · exact ⟨h.1, .inr h.2⟩
  sub := fun b hb => hI b (hi.sub b hb)
  frame := fun b hb hX => (hfr b hb hX).trans (hi.frame b hb hX)
  grow := Nat.le_trans hi.grow hsz
  rest := hz.trans hi.rest
  frames := by rw [hk]; exact frames_map hf hS hi.frames
theorem mapT_id : ∀ l : List (Nat × SV), mapT (fun sv => sv) l = l
  | [] => rfl
  | (k, v) :: l => by simp [mapT, mapT_id l]
theorem mapK_id : ∀ l : List (List (Nat × SV)), mapK (fun sv => sv) l = l
  | [] => rfl
  | t :: l => by simp [mapK, mapT_id, mapK_id l]
theorem Inv.away (hi : Inv C I β F σ w tm) {r : Nat} {R : Root} (hr : look σ.r r = some R) : ∀ b ∈ F r, ¬ I b ∧ ¬ C.L b := fun b hb => ⟨(hi.own r R hr b hb).1, (hi.own r R hr b hb).2.1⟩
theorem Inv.same (hi : Inv C I β F σ w tm) {w' : World} (hw : w'.heap = w.heap) (hz : restOf w' = restOf w := by rfl) : Inv C I β F σ w' tm := by
  have e : hpOf w' = hpOf w := by funext b; simp [hpOf, hw]
  have es : w'.heap.size = w.heap.size := by rw [hw]
  refine hi.turn (f := fun sv => sv) rfl rfl (fun _ => rfl) (mapK_id _).symm (fun k e u v hm => ⟨v, hm, rfl⟩) (by omega) hz (fun _ h => h) (fun _ h => .inl h) (fun b _ _ => by rw [e]) (fun sv v h => by rw [e]; exact h) (fun r R hl => ?_) hi.disj
  have := hi.root hl
  exact ⟨by rw [e]; exact this.rep, by rw [e]; exact this.holes, this.nodup, by rw [es]; exact this.own⟩
theorem killF_x (r : Nat) : killF r .x = .x := by simp [killF, SV.uses, SV.uses0]
theorem killF_uses {r : Nat} {sv : SV} : (killF r sv).uses r = false := by
  unfold killF
  cases h : sv.uses r with
  | true => simp [SV.uses, SV.uses0]
  | false => simpa using h
theorem killF_imp {h L I β ρ r sv v} (hs : SVR h L I β ρ sv v) : SVR h L I β ρ (killF r sv) v := by
  unfold killF
  cases sv.uses r with
  | true => trivial
  | false => exact hs
theorem killF_sub {r k : Nat} {sv : SV} (h : (killF r sv).uses k = true) : sv.uses k = true := by
  unfold killF at h
  cases e : sv.uses r with
  | true => rw [e] at h; simp [SV.uses, SV.uses0] at h
  | false => rw [e] at h; exact h
theorem Inv.kill (hi : Inv C I β F σ w tm) (r : Nat) : Inv C I β F (σ.kill r) w tm := by
  have hsame : ∀ k, k ≠ r → Same β β σ.r (σ.kill r).r k := fun k hk => by
    simp only [Same, St.kill, look_del_ne hk]
    exact ⟨LikeO.refl _, by simp⟩
  refine hi.turn (f := killF r) (killF_x r) rfl (fun i => find_mapT (killF_x r) σ.t i) rfl (fun k e u v hm => by simp [St.kill] at hm) (Nat.le_refl _) rfl (fun _ h => h) (fun _ h => .inl h) (fun _ _ _ => rfl) ?_ ?_ ?_
  · intro sv v hs
    refine SVR.mono (fun b hb => ⟨hb, rfl⟩) (fun b _ => rfl) (fun k hu => hsame k ?_) (killF_imp (r := r) hs)
    rintro rfl
    rw [killF_uses] at hu; cases hu
  · intro k R hl
    obtain ⟨hne, hl⟩ := look_del hl
    have h1 := hi.root hl
    refine ⟨h1.rep, ?_, h1.nodup, h1.own⟩
    cases R with
    | box l t a =>
      obtain ⟨b, arr, E, fr, g1, g2, g3⟩ := h1.holes
      refine ⟨b, arr, E, fr, g1, g2, fun p hp hl' => g3 p hp ?_⟩
      simp only [St.kill] at hl'
      intro e
      by_cases hpr : p.2 = r
      · rw [hpr, look_del_same] at hl'; exact hl' rfl
      · rw [look_del_ne hpr] at hl'; exact hl' e
    | arr f l t xs => trivial
    | map l kt vt es z =>
      cases z with
      | none => trivial
      | some p =>
        obtain ⟨y, j⟩ := p
        intro hl'
        refine h1.holes ?_
        simp only [St.kill] at hl'
        intro e
        by_cases hpr : j = r
        · rw [hpr, look_del_same] at hl'; exact hl' rfl
        · rw [look_del_ne hpr] at hl'; exact hl' e
  · intro k k' R R' hne hl hl'; exact hi.disj k k' R R' hne (look_del hl).2 (look_del hl').2
def updF {α : Type} (f : Nat → α) (r : Nat) (a : α) : Nat → α := fun k => if k = r then a else f k
theorem updF_same {α : Type} (f : Nat → α) (r : Nat) (a : α) : updF f r a r = a := by simp [updF]
theorem updF_ne {α : Type} (f : Nat → α) {r k : Nat} (a : α) (h : k ≠ r) : updF f r a k = f k := by simp [updF, h]
theorem freeN_ok {r : Nat} : ∀ {ρ : List (Nat × Root)} {k : Nat} {R : Root}, freeN r ρ = true → look ρ k = some R → R.holes r = false
  | (n, R0) :: ρ, k, R, hf, hl => by
    simp only [look] at hl
    cases hk : Nat.beq n k with
    | true =>
      simp only [hk, Option.some.injEq] at hl
      subst hl
      cases R0 with
      | box l t a => simp only [freeN, Bool.and_eq_true, Bool.not_eq_true'] at hf; exact hf.1
      | arr f l t xs => rfl
      | map l kt vt es z =>
        cases z with
        | none => rfl
        | some p => obtain ⟨y, j⟩ := p; simp only [freeN, Bool.and_eq_true, Bool.not_eq_true'] at hf; exact hf.1
    | false =>
      simp only [hk] at hl
      refine freeN_ok (ρ := ρ) ?_ hl
      cases R0 with
      | box l t a => simp only [freeN, Bool.and_eq_true] at hf; exact hf.2
      | arr f l t xs => simpa [freeN] using hf
      | map l kt vt es z =>
        cases z with
        | none => simpa [freeN] using hf
        | some p => obtain ⟨y, j⟩ := p; simp only [freeN, Bool.and_eq_true] at hf; exact hf.2
theorem Inv.new (hi : Inv C I β F σ w tm) {w' : World} (r : Nat) (R : Root) (v : Value) (Y : List Nat) (hfree : freeN r σ.r = true) (hsz : w.heap.size ≤ w'.heap.size) (hz : restOf w' = restOf w)
    (hh : ∀ b, b < w.heap.size → b ∉ Y → hpOf w' b = hpOf w b) (hR : RootR (hpOf w') C.L I v R Y) (hH : RootH (hpOf w') (updF β r v) (σ.new r R).r v R) (hY : Y.Nodup)
    (hown : ∀ b ∈ Y, ¬ I b ∧ ¬ C.L b ∧ b < w'.heap.size ∧ (C.X b ∨ C.n ≤ b))
    (hdis : ∀ k R', k ≠ r → look σ.r k = some R' → ∀ b ∈ F k, b ∉ Y) : Inv C I (updF β r v) (updF F r Y) (σ.new r R) w' tm := by
  have hI : ∀ b, I b → I b ∧ hpOf w' b = hpOf w b := fun b hb => ⟨hb, hh b (hi.shared b hb).1 fun hm => (hown b hm).1 hb⟩
  have hL : ∀ b, C.L b → hpOf w' b = hpOf w b := fun b hb => hh b (Nat.lt_of_lt_of_le (C.Lok b hb).1 hi.grow) fun hm => (hown b hm).2.1 hb
  have hsame : ∀ k, k ≠ r → Same β (updF β r v) σ.r (σ.new r R).r k := fun k hk => by
    simp only [Same, St.new, look_cons_ne hk, look_del_ne hk, updF_ne β v hk]
    exact ⟨LikeO.refl _, by simp⟩
  have hlook : ∀ {k R'}, look (σ.new r R).r k = some R' → (k = r ∧ R' = R) ∨ (k ≠ r ∧ look σ.r k = some R') := by
    intro k R' hl
    simp only [St.new] at hl
    by_cases e : k = r
    · subst e
      rw [look_cons_same] at hl
      exact .inl ⟨rfl, (Option.some.inj hl).symm⟩
    · rw [look_cons_ne e] at hl
      exact .inr ⟨e, (look_del hl).2⟩
  refine hi.turn (f := killF r) (killF_x r) rfl (fun i => find_mapT (killF_x r) σ.t i) rfl (fun k e u v hm => by simp [St.new] at hm) hsz hz (fun _ h => h) (fun _ h => .inl h) ?_ ?_ ?_ ?_
  · intro b hb hX
    refine hh b (Nat.lt_of_lt_of_le hb hi.grow) (fun hm => ?_)
    rcases (hown b hm).2.2.2 with h | h
    · exact hX h
    · omega
  · intro sv u hs
    refine SVR.mono hI hL (fun k hu => hsame k ?_) (killF_imp (r := r) hs)
    rintro rfl
    rw [killF_uses] at hu; cases hu
  · intro k R' hl
    rcases hlook hl with ⟨rfl, rfl⟩ | ⟨hne, hl2⟩
    · rw [updF_same, updF_same]; exact ⟨hR, hH, hY, hown⟩
    · rw [updF_ne _ _ hne, updF_ne _ _ hne]
      have h1 := hi.root hl2
      have hF : ∀ b ∈ F k, hpOf w' b = hpOf w b := fun b hb => hh b (h1.own b hb).2.2.1 (hdis k R' hne hl2 b hb)
      refine ⟨h1.rep.keep hI hL hF, h1.holes.keep hF h1.rep (fun j hj => hsame j ?_), h1.nodup, fun b hb => ?_⟩
      · intro e
        rw [e, freeN_ok hfree hl2] at hj; cases hj
      · have := h1.own b hb
        exact ⟨this.1, this.2.1, by omega, this.2.2.2⟩
  · intro k k' R1 R2 hne hl hl' b hb
    rcases hlook hl with ⟨rfl, rfl⟩ | ⟨hk, hl1⟩ <;> rcases hlook hl' with ⟨rfl, rfl⟩ | ⟨hk', hl1'⟩
    · exact (hne rfl).elim
    · rw [updF_same] at hb
      rw [updF_ne _ _ hk']
      exact fun hb' => hdis k' R2 hk' hl1' b hb' hb
    · rw [updF_ne _ _ hk] at hb
      rw [updF_same]
      exact hdis k R1 hk hl1 b hb
    · rw [updF_ne _ _ hk] at hb
      rw [updF_ne _ _ hk']
      exact hi.disj k k' R1 R2 hne hl1 hl1' b hb
theorem Inv.write (hi : Inv C I β F σ w tm) {w' : World} {r : Nat} {R R' : Root} {Y : List Nat} (hr : look σ.r r = some R) (hlike : R.like R') (hsz : w.heap.size ≤ w'.heap.size) (hz : restOf w' = restOf w)
    (hh : ∀ b, b < w.heap.size → b ∉ F r → hpOf w' b = hpOf w b) (hsub : ∀ b ∈ Y, b ∈ F r) (hY : Y.Nodup) (hR : RootR (hpOf w') C.L I (β r) R' Y) (hH : RootH (hpOf w') β (upd σ.r r R') (β r) R') :
    Inv C I β (updF F r Y) { t := σ.t, c := σ.c, r := upd σ.r r R', n := σ.n, b := σ.b, k := σ.k } w' tm := by
  have hI : ∀ b, I b → I b ∧ hpOf w' b = hpOf w b := fun b hb => ⟨hb, hh b (hi.shared b hb).1 fun hm => (hi.own r R hr b hm).1 hb⟩
  have hL : ∀ b, C.L b → hpOf w' b = hpOf w b := fun b hb => hh b (Nat.lt_of_lt_of_le (C.Lok b hb).1 hi.grow) fun hm => (hi.own r R hr b hm).2.1 hb
  have hsame : ∀ k, Same β β σ.r (upd σ.r r R') k := by
    intro k
    by_cases e : k = r
    · subst e
      simp only [Same, hr, look_upd_same hr]
      exact ⟨hlike, by simp⟩
    · simp only [Same, look_upd_ne e]
      exact ⟨LikeO.refl _, by simp⟩
  have hlook : ∀ {k R1}, look (upd σ.r r R') k = some R1 → (k = r ∧ R1 = R') ∨ (k ≠ r ∧ look σ.r k = some R1) := by
    intro k R1 hl
    by_cases e : k = r
    · subst e
      rw [look_upd_same hr] at hl
      exact .inl ⟨rfl, (Option.some.inj hl).symm⟩
    · rw [look_upd_ne e] at hl; exact .inr ⟨e, hl⟩
  refine hi.turn (f := fun sv => sv) rfl rfl (fun _ => rfl) (mapK_id _).symm (fun k e u v hm => ⟨v, hm, rfl⟩) hsz hz (fun _ h => h) (fun _ h => .inl h) ?_ (fun sv v hs => SVR.mono hI hL (fun k _ => hsame k) hs) ?_ ?_
  · intro b hb hX
    refine hh b (Nat.lt_of_lt_of_le hb hi.grow) (fun hm => ?_)
    rcases (hi.own r R hr b hm).2.2.2 with h | h
    · exact hX h
    · omega
  · intro k R1 hl
    rcases hlook hl with ⟨rfl, rfl⟩ | ⟨hne, hl⟩
    · rw [updF_same]
      exact ⟨hR, hH, hY, fun b hb => by have := hi.own k R hr b (hsub b hb); exact ⟨this.1, this.2.1, by omega, this.2.2.2⟩⟩
    · rw [updF_ne _ _ hne]
      have h1 := hi.root hl
      have hF : ∀ b ∈ F k, hpOf w' b = hpOf w b := fun b hb => hh b (h1.own b hb).2.2.1 (hi.disj k r R1 R hne hl hr b hb)
      exact ⟨h1.rep.keep hI hL hF, h1.holes.keep hF h1.rep (fun j _ => hsame j), h1.nodup, fun b hb => by have := h1.own b hb; exact ⟨this.1, this.2.1, by omega, this.2.2.2⟩⟩
  · intro k k' R1 R2 hne hl hl' b hb
    rcases hlook hl with ⟨rfl, rfl⟩ | ⟨hk, hl1⟩ <;> rcases hlook hl' with ⟨rfl, rfl⟩ | ⟨hk', hl1'⟩
    · exact (hne rfl).elim
    · rw [updF_same] at hb
      rw [updF_ne _ _ hk']
      exact hi.disj k k' R R2 hne hr hl1' b (hsub b hb)
    · rw [updF_ne _ _ hk] at hb
      rw [updF_same]
      exact fun hb' => hi.disj k k' R1 R hne hl1 hr b hb (hsub b hb')
    · rw [updF_ne _ _ hk] at hb
      rw [updF_ne _ _ hk']
      exact hi.disj k k' R1 R2 hne hl1 hl1' b hb
end
end Go.Proofs.YthlpjdjipchdkaaDoor.E

namespace Go.Proofs.YthlpjdjipchdkaaDoor.E
open Go
set_option linter.unusedSimpArgs false
set_option linter.unusedVariables false
section
variable {C : Ctx}
theorem und_ok {t : TypeId} {d : TypeDesc} (h : und C.T t = some d) : C.P.underlying t = some d := by
  unfold und at h
  cases e : C.T t with
  | none => simp [e] at h
  | some i => simp [e] at h; rw [← h]; exact (C.ok t i e).1
theorem sz_ok {t : TypeId} {n : Nat} (h : szB C.T t n = true) : ∃ j, C.P.info? t = some j ∧ j.size = n := by
  unfold szB at h
  cases e : C.T t with
  | none => simp [e] at h
  | some i =>
    simp only [e] at h
    obtain ⟨j, z, h1, h2, _⟩ := (C.ok t i e).2
    exact ⟨j, h1, h2.trans (Nat.eq_of_beq_eq_true h)⟩
theorem run_size {t : TypeId} {n : Nat} (h : szB C.T t n = true) (w : World) : (sizeOf t).run C.P w = .ok n w := by
  obtain ⟨j, h1, h2⟩ := sz_ok h
  simp [sizeOf, typeInfo, h1, h2]
theorem run_agg {t : TypeId} {b : Bool} (h : aggB C.T t b = true) (w : World) : (isAgg t).run C.P w = .ok b w := by
  unfold aggB at h
  cases e : und C.T t with
  | none => simp [e] at h
  | some d =>
    simp only [e] at h
    unfold isAgg
    rw [Sem.run_bind, run_underlying (und_ok e) w]
    cases d <;> simp_all
theorem veq_eq {x y : Value} (hb : veq x y = true) : x = y := by
  cases x <;> cases y <;> try (simp [veq] at hb; done)
  case bool.bool a b => simp [veq] at hb; rw [hb]
  case int.int k n j m => simp only [veq, Bool.and_eq_true, decide_eq_true_eq] at hb; rw [kindEq_iff hb.1, hb.2]
  case string.string a b =>
    simp [veq] at hb
    obtain ⟨h1, h2⟩ := hb
    obtain ⟨d⟩ := a
    obtain ⟨e⟩ := b
    simp at h1 h2
    rw [h1, h2]
  case pointer.pointer a b => cases a <;> cases b <;> first | rfl | (simp [veq] at hb)
  case map.map a b => cases a <;> cases b <;> first | rfl | (simp [veq] at hb)
  case slice.slice a n c b m d =>
    cases a <;> cases b <;> first | (simp [veq] at hb; done) | skip
    simp only [veq, Bool.and_eq_true] at hb
    rw [Nat.eq_of_beq_eq_true hb.1, Nat.eq_of_beq_eq_true hb.2]
theorem veqL_eq : ∀ {a b : List Value}, veqL a b = true → a = b
  | [], [], _ => rfl
  | [], _ :: _, h => by simp [veqL] at h
  | _ :: _, [], h => by simp [veqL] at h
  | x :: a, y :: b, h => by
    simp only [veqL, Bool.and_eq_true] at h
    rw [veq_eq h.1, veqL_eq h.2]
theorem zero_ok {t : TypeId} {τ : Ty} (h : zeroB C.T t τ = true) : zOk τ = true ∧ ∃ j z, C.P.info? t = some j ∧ j.zero = some z ∧ z.cells.toList = zeroC τ := by
  unfold zeroB at h
  cases e : C.T t with
  | none => simp [e] at h
  | some i =>
    simp only [e, Bool.and_eq_true] at h
    obtain ⟨j, z, h1, _, _, h2, h3⟩ := (C.ok t i e).2
    refine ⟨h.2, j, z, h1, h2, ?_⟩
    rw [h3]
    exact veqL_eq h.1
theorem zeroH_ok {t : TypeId} {τ : Ty} (h : zeroH C.T t τ = true) : zOkH τ = true ∧ ∃ j z, C.P.info? t = some j ∧ j.zero = some z ∧ z.cells.toList = zeroC τ := by
  unfold zeroH at h
  cases e : C.T t with
  | none => simp [e] at h
  | some i =>
    simp only [e, Bool.and_eq_true] at h
    obtain ⟨j, z, h1, _, _, h2, h3⟩ := (C.ok t i e).2
    refine ⟨h.2, j, z, h1, h2, ?_⟩
    rw [h3]
    exact veqL_eq h.1
theorem zeroIs_ok {t : TypeId} {l : List Value} (h : zeroIs C.T t l = true) : ∃ j z, C.P.info? t = some j ∧ j.zero = some z ∧ z.cells.toList = l := by
  unfold zeroIs at h
  cases e : C.T t with
  | none => simp [e] at h
  | some i =>
    simp only [e] at h
    obtain ⟨j, z, h1, _, _, h2, h3⟩ := (C.ok t i e).2
    exact ⟨j, z, h1, h2, by rw [h3]; exact veqL_eq h⟩
end
theorem addr_add (b o i : Nat) : (⟨b, o, none⟩ : Addr).add i = ⟨b, o + i, none⟩ := by unfold Addr.add; split <;> simp_all
theorem RL.one {α : Type} {R : α → List Value → List Nat → Prop} (hr : ∀ x c X, R x c X → ∀ v ∈ c, v.oneCell' = true) :
    ∀ {xs : List α} {cs X}, RL R xs cs X → ∀ v ∈ cs, v.oneCell' = true
  | [], _, _, ⟨h, _⟩, v, hv => by subst h; simp at hv
  | _ :: xs, _, _, ⟨c1, c2, X1, X2, h1, _, h3, h4⟩, v, hv => by
    subst h1
    rcases List.mem_append.1 hv with h | h
    · exact hr _ _ _ h3 v h
    · exact RL.one hr h4 v h
theorem Rep.one {h : Hp} {S : Set'} {l : Bool} : ∀ {t : Ty} {x : den t} {cs X}, Rep h S l t x cs X → ∀ v ∈ cs, v.oneCell' = true
  | .int _, _, _, _, hr, v, hv | .bool, _, _, _, hr, v, hv | .str, _, _, _, hr, v, hv | .unit, _, _, _, hr, v, hv => by rw [hr.1] at hv; simp at hv; try (rw [hv]; rfl)
  | .pair _ _, _, _, _, ⟨c1, c2, _, _, h1, _, h3, h4⟩, v, hv => by
    subst h1
    rcases List.mem_append.1 hv with h | h
    · exact Rep.one h3 v h
    · exact Rep.one h4 v h
  | .arr _ _, _, _, _, ⟨_, h2⟩, v, hv => RL.one (fun _ _ _ => Rep.one) h2 v hv
  | .sl _ _, _, _, _, ⟨_, _, h1, _⟩, v, hv => by rw [h1] at hv; simp at hv; rw [hv]; rfl
  | .ptr _ _, none, _, _, hr, v, hv => by rw [hr.1] at hv; simp at hv; rw [hv]; rfl
  | .ptr _ _, some _, _, _, ⟨_, _, _, _, _, _, h1, _⟩, v, hv => by rw [h1] at hv; simp at hv; rw [hv]; rfl
  | .ref _ _, _, _, _, ⟨_, _, _, _, _, _, h1, _⟩, v, hv => by rw [h1] at hv; simp at hv; rw [hv]; rfl
  | .map _ _ _, _, _, _, ⟨_, _, _, _, h1, _⟩, v, hv => by rw [h1] at hv; simp at hv; rw [hv]; rfl
  | .hole _, _, _, _, ⟨⟨_, h1, h2⟩, _⟩, v, hv => by rw [h1] at hv; simp at hv; rw [hv]; exact h2
  | .raw _ _, _, _, _, hr, v, hv => by rw [hr.1] at hv; exact hr.2.2.1 v hv
  | .nils, _, _, _, ⟨⟨_, h1⟩, _⟩, v, hv => by rw [h1] at hv; simp at hv; rw [hv]; rfl
  | .nilp, _, _, _, hr, v, hv => by rw [hr.1] at hv; simp at hv; rw [hv]; rfl
theorem Rep.raw1 {h : Hp} {S : Set'} {l : Bool} {t : Ty} {x : den t} {cs : List Value} {X : List Nat} (hr : Rep h S l t x cs X) (ha : t.isAgg = false) : cs.length = 1 := by
  have hl := hr.len
  cases t <;> simp [Ty.isAgg] at ha <;> first | (rw [hl]; rfl) | skip
  rename_i g n
  rw [hl]
  exact hr.2.2.2.1 ha
theorem wrapV_cells {h : Hp} {S : Set'} {l : Bool} {t : Ty} {x : den t} {cs : List Value} {X : List Nat} (hr : Rep h S l t x cs X) : (wrapV t cs).cells.toList = cs := by
  have h1 := hr.one
  unfold wrapV
  cases ha : t.isAgg with
  | true => simp [Value.cells]
  | false =>
    obtain ⟨c, rfl⟩ := List.length_eq_one_iff.1 (hr.raw1 ha)
    have := h1 c (by simp)
    cases c <;> simp_all [Value.cells, Value.oneCell']
section
variable {C : Ctx} {w : World}
theorem cell_at {b o : Nat} {arr : Array Value} {E : TypeId} {fr : Nat × Nat} (hb : hpOf w b = some (.cells arr E fr)) (i : Nat) : w.cell? ⟨b, o + i, none⟩ = arr[o + i]? := by
  simp [World.cell?, hpOf] at hb ⊢; simp [hb]
theorem run_cells {b o n : Nat} {arr : Array Value} {E : TypeId} {fr : Nat × Nat} (hb : hpOf w b = some (.cells arr E fr)) (hn : o + n ≤ arr.size) :
    (loadCells ⟨b, o, none⟩ n).run C.P w = .ok ((arr.toList.drop o).take n).toArray w := by
  have h := run_loadCells_list (P := C.P) w ⟨b, o, none⟩ ((arr.toList.drop o).take n) (fun j v hv => by
    rw [addr_add, cell_at hb]
    rw [List.getElem?_take] at hv
    split at hv
    · rw [List.getElem?_drop] at hv; simpa using hv
    · cases hv)
  have hl : ((arr.toList.drop o).take n).length = n := by simp; omega
  rw [hl] at h
  exact h
theorem run_load_var {t : TypeId} {τ : Ty} (hf : fits C.T t τ = true) {h : Hp} {S : Set'} {l : Bool} {x : den τ} {X : List Nat} {b o : Nat} {arr : Array Value} {E : TypeId} {fr : Nat × Nat} (hb : hpOf w b = some (.cells arr E fr)) (hn : o + τ.size ≤ arr.size)
    (hr : Rep h S l τ x ((arr.toList.drop o).take τ.size) X) :
    (loadVar t ⟨b, o, none⟩).run C.P w = .ok (wrapV τ ((arr.toList.drop o).take τ.size)) w := by
  simp only [fits, Bool.and_eq_true] at hf
  unfold loadVar
  rw [Sem.run_bind, run_agg hf.2]
  simp only [Result.andThen_ok]
  cases ha : τ.isAgg with
  | true =>
    simp only [if_true, Sem.run_bind, run_size hf.1, Result.andThen_ok, run_cells hb hn, Sem.run_pure, wrapV, ha]
  | false =>
    have h1 : τ.size = 1 := by rw [← hr.len]; exact hr.raw1 ha
    have hlt : o < arr.size := by omega
    have hc : w.cell? ⟨b, o, none⟩ = some arr[o] := by
      have := cell_at (o := o) hb 0
      simpa [hlt] using this
    have hd : (arr.toList.drop o).take 1 = [arr[o]] := by
      rw [List.take_one]
      simp [List.head?_drop, hlt]
    simp only [Bool.false_eq_true, if_false, run_load, hc, wrapV, ha, h1, hd, List.headD_cons]
theorem frozen_at {b : Nat} {arr : Array Value} {E : TypeId} {fr : Nat × Nat} (hb : hpOf w b = some (.cells arr E fr)) (hc : calm arr.size fr) {i : Nat} (hi : i < arr.size) : w.frozen? ⟨b, i, none⟩ = false := by
  simp only [World.frozen?, hpOf] at hb ⊢
  simp only [hb]
  rcases hc with rfl | h
  · simp
  · obtain ⟨lo, hi'⟩ := fr
    have h : arr.size ≤ lo := h
    have h2 : ¬ (lo ≤ i) := by omega
    simp [h2]
theorem hp_setCell {b i : Nat} {v : Value} {arr : Array Value} {E : TypeId} {fr : Nat × Nat} (hb : hpOf w b = some (.cells arr E fr)) :
    hpOf (w.setCell ⟨b, i, none⟩ v) b = some (.cells (arr.setIfInBounds i v) E fr) ∧ (∀ k, k ≠ b → hpOf (w.setCell ⟨b, i, none⟩ v) k = hpOf w k) ∧ (w.setCell ⟨b, i, none⟩ v).heap.size = w.heap.size := by
  refine ⟨?_, ?_, by simp⟩
  · simp only [hpOf, World.setCell] at hb ⊢
    rw [Array.getElem?_modify]
    simp [hb]
  · intro k hk
    exact heap_setCell_other w ⟨b, i, none⟩ k v hk
theorem run_store_cells {b o : Nat} {E : TypeId} {fr : Nat × Nat} : ∀ (vs : List Value) (i : Nat) (arr : Array Value) (w : World), hpOf w b = some (.cells arr E fr) → calm arr.size fr → o + i + vs.length ≤ arr.size → (∀ v ∈ vs, v.oneCell' = true) →
    ∃ w' arr', (storeCells ⟨b, o, none⟩ vs i).run C.P w = .ok () w' ∧ hpOf w' b = some (.cells arr' E fr) ∧ arr'.size = arr.size ∧ arr'.toList = arr.toList.take (o + i) ++ vs ++ arr.toList.drop (o + i + vs.length) ∧
      (∀ k, k ≠ b → hpOf w' k = hpOf w k) ∧ w'.heap.size = w.heap.size ∧ restOf w' = restOf w
  | [], i, arr, w, hb, _, _, _ => ⟨w, arr, rfl, hb, rfl, by simp, fun _ _ => rfl, rfl, rfl⟩
  | v :: rest, i, arr, w, hb, hc, hl, h1 => by
    have hi : o + i < arr.size := by simp at hl; omega
    have hcell : w.cell? ⟨b, o + i, none⟩ = some arr[o + i] := by rw [cell_at hb]; simp [hi]
    obtain ⟨e1, e2, e3⟩ := hp_setCell (i := o + i) (v := v) hb
    have hst : (store ((⟨b, o, none⟩ : Addr).add i) v).run C.P w = .ok () (w.setCell ⟨b, o + i, none⟩ v) := by
      rw [addr_add, run_store C.P w _ v _ (h1 v (by simp)), hcell]
      simp [frozen_at hb hc hi]
    obtain ⟨w', arr', f1, f2, f3, f4, f5, f6, f7⟩ := run_store_cells (b := b) (o := o) (E := E) (fr := fr) rest (i + 1) (arr.setIfInBounds (o + i) v) (w.setCell ⟨b, o + i, none⟩ v) e1 (by simpa using hc) (by simp only [List.length_cons] at hl; simp; omega) (fun x hx => h1 x (by simp [hx]))
    refine ⟨w', arr', ?_, f2, by simpa using f3, ?_, fun k hk => (f5 k hk).trans (e2 k hk), f6.trans e3, f7.trans rfl⟩
    · simp only [storeCells, Sem.run_bind, hst, Result.andThen_ok]; exact f1
    · rw [f4]
      have e := list_seg_step arr.toList (o + i) v rest (by simp at hl ⊢; omega)
      simpa [Array.toList_setIfInBounds, Nat.add_assoc] using e
theorem hp_alloc (o : Obj) : hpOf (w.alloc o) w.heap.size = some o ∧ (∀ k, k < w.heap.size → hpOf (w.alloc o) k = hpOf w k) ∧ (w.alloc o).heap.size = w.heap.size + 1 :=
  ⟨heap_alloc_new w o, fun k hk => by first | exact heap_alloc_old w o k hk | exact heap_alloc_old w o hk, by simp⟩
end
end Go.Proofs.YthlpjdjipchdkaaDoor.E

namespace Go.Proofs.YthlpjdjipchdkaaDoor.E
open Go
set_option linter.unusedSimpArgs false
set_option linter.unusedVariables false
def After (C : Ctx) (I T : Set') (σ' : St) (w : World) (tm : Array Value) (sv : SV) (res : Result Value) : Prop :=
  ∃ v w' I' β' F', res = .ok v w' ∧ Inv C I' β' F' σ' w' tm ∧ SVR (hpOf w') C.L I' β' σ'.r sv v ∧ (∀ b, I b → I' b) ∧ w.heap.size ≤ w'.heap.size ∧
    (∀ b, b < w.heap.size → ¬ T b → hpOf w' b = hpOf w b)
section
variable {C : Ctx} {I : Set'} {β : Nat → Value} {F : Nat → List Nat} {σ : St} {w : World} {tm : Array Value} {h : Hp} {L : Set'} {ρ : List (Nat × Root)}
theorem svr_int {l : Bool} {k : IntKind} {n : Int} : SVR h L I β ρ (.v l (.int k) n) (.int k n) := ⟨[.int k n], ⟨rfl, rfl⟩, rfl, Holes.solid rfl⟩
theorem svr_bool {l b : Bool} : SVR h L I β ρ (.v l .bool b) (.bool b) := ⟨[.bool b], ⟨rfl, rfl⟩, rfl, Holes.solid rfl⟩
theorem svr_str {l : Bool} {s : List UInt8} : SVR h L I β ρ (.v l .str s) (.string ⟨⟨s⟩⟩) := ⟨[.string ⟨⟨s⟩⟩], ⟨rfl, rfl⟩, rfl, Holes.solid rfl⟩
theorem of_int {l : Bool} {k : IntKind} {n : Int} {v : Value} (hs : SVR h L I β ρ (.v l (.int k) n) v) : v = .int k n := by
  obtain ⟨cs, ⟨rfl, _⟩, rfl, _⟩ := hs; rfl
theorem of_bool {l b : Bool} {v : Value} (hs : SVR h L I β ρ (.v l .bool b) v) : v = .bool b := by
  obtain ⟨cs, ⟨rfl, _⟩, rfl, _⟩ := hs; rfl
theorem of_str {l : Bool} {s : List UInt8} {v : Value} (hs : SVR h L I β ρ (.v l .str s) v) : v = .string ⟨⟨s⟩⟩ := by
  obtain ⟨cs, ⟨rfl, _⟩, rfl, _⟩ := hs; rfl
theorem Inv.after (hi : Inv C I β F σ w tm) {T : Set'} {sv : SV} {v : Value} (hs : SVR (hpOf w) C.L I β σ.r sv v) : After C I T σ w tm sv (.ok v w) :=
  ⟨v, w, I, β, F, rfl, hi, hs, fun _ h => h, Nat.le_refl _, fun _ _ _ => rfl⟩
def After0 (C : Ctx) (I : Set') (β : Nat → Value) (σ σ' : St) (w : World) (sv : SV) (res : Result Value) : Prop :=
  ∃ v, res = .ok v w ∧ σ' = σ ∧ SVR (hpOf w) C.L I β σ.r sv v
theorem Inv.after0 (hi : Inv C I β F σ w tm) {sv : SV} {v : Value} (hs : SVR (hpOf w) C.L I β σ.r sv v) : After0 C I β σ σ w sv (.ok v w) := ⟨v, rfl, rfl, hs⟩
theorem After0.a {T : Set'} {σ' : St} {sv : SV} {res : Result Value} (h : After0 C I β σ σ' w sv res) (hi : Inv C I β F σ w tm) : After C I T σ' w tm sv res := by
  obtain ⟨v, rfl, rfl, h⟩ := h
  exact hi.after h
theorem place (hi : Inv C I β F σ w tm) {r : Nat} {s : List Sel} {v : Value} (hs : SVR (hpOf w) C.L I β σ.r (.p r s) v) :
    ∃ R o u b base arr E fr, look σ.r r = some R ∧ R.off s = some (o, u) ∧ R.ok s ∧
      v = .pointer (some ⟨b, base + o, none⟩) ∧ hpOf w b = some (.cells arr E fr) ∧ calm arr.size fr ∧ b ∈ F r ∧ base + o + u.size ≤ arr.size ∧
      (∀ l t a, R = .box l t a → β r = .pointer (some ⟨b, 0, none⟩) ∧ base = 0 ∧ arr.size = t.size) ∧
      (∀ l p, R.get s = some (l, p) → p.o = o ∧ p.t = u ∧ l = R.len ∧ Holes β σ.r p.t ((arr.toList.drop (base + o)).take p.t.size) ∧
        ∃ Y, (∀ b' ∈ Y, b' ∈ F r) ∧ Rep (hpOf w) (Sx C.L I l) false p.t p.a ((arr.toList.drop (base + o)).take p.t.size) Y) := by
  obtain ⟨R, o, u, h1, h2, h3, h4⟩ := hs
  have hR := hi.roots r R h1
  have hH := hi.holes r R h1
  cases R with
  | map _ _ _ _ _ => simp [Root.off] at h2
  | box l t a =>
    obtain ⟨b, ob, arr, E, fr, X', e1, e2, e3, e4, e5⟩ := hR
    simp only [Bool.and_true, if_true, Bool.not_false] at e5
    obtain ⟨f1, f2, rfl, f4⟩ := e5
    simp only [List.cons.injEq, and_true] at e1
    have hle := selOff_le h2 h3
    obtain ⟨b', arr', E', fr', g1, g2, g3⟩ := hH
    rw [e1] at g1
    simp only [Value.pointer.injEq, Option.some.injEq, Addr.mk.injEq, and_true] at g1
    subst g1
    rw [e2] at g2
    simp only [Option.some.injEq, Obj.cells.injEq] at g2
    obtain ⟨rfl, _, _⟩ := g2
    refine ⟨_, o, u, b, 0, arr, E, fr, h1, h2, h3, ?_, e2, f2, by rw [f1]; simp, by omega, ?_, ?_⟩
    · rw [h4, e1]; simp [ptrOf]
    · intro l' t' a' hR'
      simp only [Root.box.injEq] at hR'
      obtain ⟨rfl, rfl, _⟩ := hR'
      exact ⟨e1, rfl, f4⟩
    · intro l' p hg
      simp only [Root.get] at hg
      cases hq : selGet s t a with
      | none => simp [hq] at hg
      | some q =>
        simp [hq] at hg
        obtain ⟨rfl, rfl⟩ := hg
        obtain ⟨Y, hY0, hY, _⟩ := selGet_rep hq h3 e4
        have := selGet_off s t a q hq
        simp only [Root.off] at h2
        rw [h2] at this
        simp only [Option.some.injEq, Prod.mk.injEq] at this
        obtain ⟨rfl, rfl⟩ := this
        refine ⟨rfl, rfl, rfl, ?_, Y, fun b' hb => by rw [f1]; simp [hY0 b' hb], ?_⟩
        · intro z hz hl
          have hz2 : (z.1 + q.o, z.2) ∈ holesOf t 0 := selGet_holes hq _ (by rw [holesOf_shift]; exact List.mem_map.2 ⟨z, hz, rfl⟩)
          have hlt := (holesOf_lt hz).2
          have := g3 _ hz2 hl
          simp only at this
          rw [List.getElem?_take, if_pos (by omega), List.getElem?_drop, ← this]
          congr 1; omega
        · have e : (List.take q.t.size (List.drop q.o (List.take t.size (List.drop 0 arr.toList)))) = List.take q.t.size (List.drop (0 + q.o) arr.toList) := by
            rw [List.drop_take, List.take_take, List.drop_drop]
            congr 1; omega
          rw [e] at hY; exact hY
  | arr f l t xs =>
    obtain ⟨hR, _⟩ := hR
    cases s with
    | nil => simp [Root.off] at h2
    | cons z s => cases z with
      | f i => simp [Root.off] at h2
      | i n =>
        simp only [Root.off] at h2
        cases hs : selOff s t with
        | none => simp [hs] at h2
        | some q =>
          simp [hs] at h2
          obtain ⟨rfl, rfl⟩ := h2
          obtain ⟨hn, hok⟩ := h3
          obtain ⟨a, c, e1, e2, e3⟩ := hR
          rcases e3 with ⟨e3, _⟩ | ⟨b, ob, arr, E', fr, X', f1, f2, f3, f4, f5⟩
          · rw [e3] at hn; simp at hn
          simp only [Bool.and_true, if_true, Bool.not_false] at f5
          simp only [List.cons.injEq, and_true] at e1
          have hle := selOff_le (o := q.1) (a := q.2) hs hok
          have hm : n * t.size + t.size ≤ xs.length * t.size := by rw [← Nat.succ_mul]; exact Nat.mul_le_mul_right _ hn
          have hm2 : xs.length * t.size ≤ c * t.size := Nat.mul_le_mul_right _ e2
          refine ⟨_, n * t.size + q.1, q.2, b, ob, arr, E', fr, h1, by simp [Root.off, hs], ⟨hn, hok⟩, ?_, f2, (calm_of f5.2), by rw [f5.1]; simp, by omega, (by intro l' t' a' h; cases h), ?_⟩
          · rw [h4, e1, f1]; simp [ptrOf]
          · intro l' p hg
            simp only [Root.get] at hg
            cases hsd : E.solid t with
            | false => rw [hsd] at hg; simp at hg
            | true =>
            rw [hsd] at hg
            simp only at hg
            cases hq : selGet s t (xs.getD n (E.dflt t)) with
            | none => rw [hq] at hg; simp at hg
            | some q' =>
              rw [hq] at hg; simp at hg
              obtain ⟨rfl, rfl⟩ := hg
              have := selGet_off s t _ q' hq
              rw [hs] at this
              obtain rfl := Option.some.inj this
              obtain ⟨Y, hY0, _, hY, _⟩ := RL.get (fun _ _ _ => Rep.len) (E.dflt t) n hn f4
              obtain ⟨Z, hZ0, hZ, _⟩ := selGet_rep hq hok hY
              refine ⟨rfl, rfl, rfl, Holes.solid (selGet_solid (p := q') hq hsd), Z, fun b' hb => by rw [f5.1]; simp [hY0 b' (hZ0 b' hb)], ?_⟩
              have e : List.take q'.t.size (List.drop q'.o (List.take t.size (List.drop (n * t.size) (List.take (xs.length * t.size) (List.drop ob arr.toList))))) = List.take q'.t.size (List.drop (ob + (n * t.size + q'.o)) arr.toList) := by
                rw [List.drop_take, List.drop_take, List.take_take, List.drop_take, List.take_take, List.drop_drop, List.drop_drop]
                congr 1
                simp only at hle
                omega
              have hZ : Rep (hpOf w) (Sx C.L I l) false q'.t q'.a (List.take q'.t.size (List.drop q'.o (List.take t.size (List.drop (n * t.size) (List.take (xs.length * t.size) (List.drop ob arr.toList)))))) Z := by simpa using hZ
              rw [e] at hZ; exact hZ
theorem bin_ok {op : BinOp} {k j : IntKind} {a b : Int} {sv : SV} (hk : (isShift op || kindEq k j) = true) (hb : bin op k a b = some (true, sv)) (t : TypeId) (w : World) :
    ∃ v, (binOp op t (.int k a) (.int j b)).run C.P w = .ok v w ∧ SVR h L I β ρ sv v := by
  cases op <;> simp only [bin, Option.some.injEq, Prod.mk.injEq] at hb <;> simp only [isShift, Bool.true_or, Bool.false_or] at hk
  all_goals try (obtain rfl := kindEq_iff hk)
  all_goals obtain ⟨hc, rfl⟩ := hb
  case quo =>
    have : b ≠ 0 := by simpa using hc
    exact ⟨_, by simp [binOp, Op.intDiv, this], svr_int⟩
  case rem =>
    have : b ≠ 0 := by simpa using hc
    exact ⟨_, by simp [binOp, Op.intDiv, this], svr_int⟩
  case shl =>
    have : ¬ b < 0 := by have := of_decide_eq_true hc; omega
    exact ⟨_, by simp [binOp, Op.shift, this], svr_int⟩
  case shr =>
    have : ¬ b < 0 := by have := of_decide_eq_true hc; omega
    exact ⟨_, by simp [binOp, Op.shift, this], svr_int⟩
  all_goals first
    | exact ⟨_, by simp [binOp, Op.intArith, Op.intBits, Op.intCmp], svr_int⟩
    | exact ⟨_, by simp [binOp, Op.intArith, Op.intBits, Op.intCmp], svr_bool⟩
theorem ba_list (l : List UInt8) : (⟨⟨l⟩⟩ : ByteArray).toList = l := by
  rw [ByteArray.toList_eq]
theorem binStr_ok {op : BinOp} {a b : List UInt8} {sv : SV} (hb : binStr op a b = some (true, sv)) (t : TypeId) (w : World) :
    ∃ v, (binOp op t (.string ⟨⟨a⟩⟩) (.string ⟨⟨b⟩⟩)).run C.P w = .ok v w ∧ SVR h L I β ρ sv v := by
  cases op <;> simp only [binStr, Option.some.injEq, Prod.mk.injEq, reduceCtorEq] at hb
  all_goals obtain ⟨hc, rfl⟩ := hb
  case add =>
    have := of_decide_eq_true hc
    refine ⟨.string ⟨⟨a ++ b⟩⟩, ?_, svr_str⟩
    have hsz : ¬ (((⟨⟨a⟩⟩ : ByteArray).size + (⟨⟨b⟩⟩ : ByteArray).size : Nat) : Int) > IntKind.i64.max := by
      have e1 : (⟨⟨a⟩⟩ : ByteArray).size = a.length := rfl
      have e2 : (⟨⟨b⟩⟩ : ByteArray).size = b.length := rfl
      have e3 : IntKind.i64.max = 9223372036854775807 := by decide
      rw [e1, e2, e3]; omega
    have he : (⟨⟨a⟩⟩ : ByteArray) ++ ⟨⟨b⟩⟩ = ⟨⟨a ++ b⟩⟩ := by
      apply ByteArray.ext
      simp
    simp only [binOp, Op.stringOp, if_neg hsz, he]
    rfl
  all_goals exact ⟨_, by simp [binOp, Op.stringOp, ba_list], svr_bool⟩
end
end Go.Proofs.YthlpjdjipchdkaaDoor.E

namespace Go.Proofs.YthlpjdjipchdkaaDoor.E
open Go
set_option linter.unusedSimpArgs false
set_option linter.unusedVariables false
section
variable {h : Hp} {S : Set'}
theorem RL.nilX {α : Type} {R : α → List Value → List Nat → Prop} {xs : List α} {cs : List Value} {Y : List Nat} (hr : ∀ x c X, R x c X → X = []) (hx : RL R xs cs Y) : RL R xs cs [] := by
  have := RL.noX hr hx
  subst this; exact hx
theorem sub_rep {o : Bool} {t : Ty} {xs : List (den t)} {v u : Value} {lo n : Nat} (hr : Rep h S true (.sl o t) xs [v] []) (hs : subOf v t.size lo n u) (hn : lo + n ≤ xs.length) :
    Rep h S true (.sl o t) ((xs.drop lo).take n) [u] [] := by
  obtain ⟨a, c, e1, e2, e3⟩ := hr
  obtain ⟨a0, m, c0, a', c', f1, f2, f3, f4, f5⟩ := hs
  simp only [List.cons.injEq, and_true] at e1
  rw [f1] at e1
  simp only [Value.slice.injEq] at e1
  obtain ⟨rfl, rfl, rfl⟩ := e1
  have hlen : ((xs.drop lo).take n).length = n := by simp; omega
  refine ⟨a', c', by rw [f2, hlen], by rw [hlen]; exact f3, ?_⟩
  rcases e3 with ⟨g1, g2, g3, _⟩ | ⟨b, of, arr, E', fr, X', g1, g2, g3, g4, g5⟩
  · subst g1
    simp at hn
    subst g3
    have : c' = 0 := by omega
    exact .inl ⟨by simp, rfl, this, rfl⟩
  · simp only [Bool.not_true, Bool.and_false, Bool.false_eq_true, if_false] at g5
    obtain ⟨g5, _, rfl⟩ := g5
    rcases f5 with ⟨_, _, f5⟩ | ⟨b', o', k, f5, f6, f7, f8⟩
    · refine .inl ⟨?_, rfl, f5, rfl⟩
      have : n = 0 := by omega
      subst this; simp
    · rw [g1] at f5
      simp only [Option.some.injEq, Addr.mk.injEq, and_true] at f5
      obtain ⟨rfl, rfl⟩ := f5
      have hle : k * t.size + c' * t.size ≤ c0 * t.size := by rw [← Nat.add_mul]; exact Nat.mul_le_mul_right _ f7
      refine .inr ⟨b, of + k * t.size, arr, E', fr, [], f6, g2, by omega, ?_, by simp [g5]⟩
      rcases f8 with f8 | f8
      · have : n = 0 := by omega
        subst this
        simp [RL]
      subst f8
      obtain ⟨Y, hY, h1⟩ := RL.drop (fun _ _ _ => Rep.len) k g4
      obtain ⟨Z, hZ, h2⟩ := RL.take (fun _ _ _ => Rep.len) n h1
      have h2 := RL.nilX (fun _ _ _ => Rep.lentX) h2
      rw [hlen]
      have e : List.take (n * t.size) (List.drop (k * t.size) (List.take (xs.length * t.size) (List.drop of arr.toList))) = List.take (n * t.size) (List.drop (of + k * t.size) arr.toList) := by
        have : n * t.size + k * t.size ≤ xs.length * t.size := by rw [← Nat.add_mul]; exact Nat.mul_le_mul_right _ (by omega)
        rw [List.drop_take, List.take_take, List.drop_drop]
        congr 1; omega
      rw [e] at h2; exact h2
theorem sub_all {a : Option Addr} {m c sz : Nat} : ∀ {v : Value}, v = .slice a m c → m ≤ c → (a = none → c = 0) → (c = 0 ∨ ∀ x, a = some x → x.spot = none) → subOf v sz 0 m v := by
  rintro v rfl h1 h2 h3
  refine ⟨a, m, c, a, c, rfl, rfl, h1, by omega, ?_⟩
  rcases h3 with h3 | h3
  · exact .inl ⟨rfl, rfl, h3⟩
  cases a with
  | none => exact .inl ⟨rfl, rfl, h2 rfl⟩
  | some x =>
    obtain ⟨b, o, s⟩ := x
    obtain rfl := h3 _ rfl
    exact .inr ⟨b, o, 0, rfl, by simp, by omega, .inr rfl⟩
theorem arr_rep {L I : Set'} {β : Value} {f l : Bool} {t : Ty} {xs : List (den t)} {X : List Nat} (hr : RootR h L I β (.arr f l t xs) X) (hf : t.flat = true) :
    Rep h (Sx L (fun b => I b ∨ b ∈ X) l) true (.sl false t) xs [β] [] := by
  obtain ⟨⟨a, c, e1, e2, e3⟩, _⟩ := hr
  refine ⟨a, c, e1, e2, ?_⟩
  rcases e3 with ⟨g1, g2, g3, _⟩ | ⟨b, of, arr, E', fr, X', g1, g2, g3, g4, g5⟩
  · exact .inl ⟨g1, g2, g3, rfl⟩
  · simp only [Bool.and_true, if_true, Bool.not_false] at g5
    refine .inr ⟨b, of, arr, E', fr, [], g1, g2, g3, ?_, ?_⟩
    · have h1 : RL (Rep h (Sx L I l) true t) xs ((arr.toList.drop of).take (xs.length * t.size)) X' :=
        RL.mono_mem (fun x c Y _ hY hr => by obtain ⟨e, r⟩ := Rep.flat (t := t) hf hr; rw [e]; exact r) g4
      have h2 := RL.nilX (fun _ _ _ => Rep.lentX) h1
      exact RL.mono_mem (fun x c Y _ _ hr => Rep.keep (S := Sx L I l) (fun b hb => ⟨by rcases hb with hb | hb; exact .inl (.inl hb); exact .inr hb, rfl⟩) (fun _ _ => rfl) hr) h2
    · simp [Sx, g5.1]
theorem plug_holes {k : Nat} {w : Ty} {y : den (.sl false w)} : ∀ {t : Ty} {x : den t} {o : Nat}, (∀ p ∈ holesOf (plugT k (.sl false w) y t x).t o, p ∈ holesOf t o ∧ p.2 ≠ k) ∧ layB t (plugT k (.sl false w) y t x).t = true
  | .hole j, x, o => by
    simp only [plugT]
    cases hj : Nat.beq j k with
    | true => exact ⟨by simp [holesOf], rfl⟩
    | false => exact ⟨by intro p hp; refine ⟨hp, ?_⟩; simp [holesOf] at hp; subst hp; rintro rfl; simp at hj, by simp [layB]⟩
  | .pair a b, x, o => by
    obtain ⟨h1, h2⟩ := plug_holes (k := k) (y := y) (t := a) (x := x.1) (o := o)
    obtain ⟨h3, h4⟩ := plug_holes (k := k) (y := y) (t := b) (x := x.2) (o := o + a.size)
    simp only [plugT]
    refine ⟨?_, by simp [layB, h2, h4]⟩
    intro p hp
    simp only [holesOf, List.mem_append] at hp ⊢
    rcases hp with hp | hp
    · exact ⟨.inl (h1 p hp).1, (h1 p hp).2⟩
    · rw [← layB_size h2] at hp
      exact ⟨.inr (h3 p hp).1, (h3 p hp).2⟩
  | .int _, _, _ | .bool, _, _ | .str, _, _ | .unit, _, _ | .arr _ _, _, _ | .sl _ _, _, _ | .ptr _ _, _, _ | .ref _ _, _, _ | .map _ _ _, _, _ | .raw _ _, _, _ | .nils, _, _ | .nilp, _, _ => ⟨by simp [plugT, holesOf], layB_refl _⟩
theorem plug_agg {k : Nat} {w : Ty} {y : den (.sl false w)} : ∀ {t : Ty} {x : den t}, (plugT k (.sl false w) y t x).t.isAgg = t.isAgg
  | .hole j, x => by simp only [plugT]; cases Nat.beq j k <;> rfl
  | .pair a b, x => rfl
  | .int _, _ | .bool, _ | .str, _ | .unit, _ | .arr _ _, _ | .sl _ _, _ | .ptr _ _, _ | .ref _ _, _ | .map _ _ _, _ | .raw _ _, _ | .nils, _ | .nilp, _ => rfl
theorem plug_rep {S : Set'} {k : Nat} {w : Ty} {y : den (.sl false w)} {v : Value} {l : Bool} (hy : Rep h S l (.sl false w) y [v] []) : ∀ {t : Ty} {x : den t} {cs : List Value} {X : List Nat}, Rep h S l t x cs X →
    (∀ p ∈ holesOf t 0, p.2 = k → cs[p.1]? = some v) → Rep h S l (plugT k (.sl false w) y t x).t (plugT k (.sl false w) y t x).a cs X
  | .hole j, x, cs, X, hr, hh => by
    simp only [plugT]
    cases hj : Nat.beq j k with
    | false => exact hr
    | true =>
      obtain ⟨⟨u, rfl, _⟩, rfl⟩ := hr
      have := hh (0, j) (by simp [holesOf]) (Nat.eq_of_beq_eq_true hj)
      simp at this
      subst this
      exact hy
  | .pair a b, x, cs, X, ⟨c1, c2, X1, X2, h1, h2, h3, h4⟩, hh => by
    subst h1
    have hl := h3.len
    refine ⟨c1, c2, X1, X2, rfl, h2, plug_rep hy h3 (fun p hp hk => ?_), plug_rep hy h4 (fun p hp hk => ?_)⟩
    · have := hh p (by simp [holesOf, hp]) hk
      have hlt := (holesOf_lt hp).2
      rwa [List.getElem?_append_left (by omega)] at this
    · have := hh (p.1 + a.size, p.2) (by simp only [holesOf, List.mem_append]; right; rw [holesOf_shift]; exact List.mem_map.2 ⟨p, hp, by simp⟩) hk
      rw [List.getElem?_append_right (by simp; omega)] at this
      simpa [hl] using this
  | .int _, _, _, _, hr, _ | .bool, _, _, _, hr, _ | .str, _, _, _, hr, _ | .unit, _, _, _, hr, _ | .arr _ _, _, _, _, hr, _ | .sl _ _, _, _, _, hr, _ | .ptr _ _, _, _, _, hr, _ | .ref _ _, _, _, _, hr, _ | .map _ _ _, _, _, _, hr, _ | .raw _ _, _, _, _, hr, _ | .nils, _, _, _, hr, _ | .nilp, _, _, _, hr, _ => hr
theorem coeL_rep {S : Set'} : ∀ {τ t : Ty} {x : den t} {y : den τ} {cs : List Value}, coeL τ t x = some y → Rep h S true t x cs [] → Rep h S true τ y cs [] ∧ τ.isAgg = t.isAgg := by
  intro τ
  have hc : ∀ {τ t : Ty} {x : den t} {y : den τ} {cs : List Value}, cast? (t := t) τ x = some y → Rep h S true t x cs [] → Rep h S true τ y cs [] ∧ τ.isAgg = t.isAgg := by
    intro τ t x y cs hy hr
    obtain ⟨rfl, he⟩ := cast?_some hy
    have := eq_of_heq he
    subst this
    exact ⟨hr, rfl⟩
  induction τ with
  | pair a b iha ihb =>
    intro t x y cs hy hr
    cases t with
    | pair c d =>
      simp only [coeL] at hy
      cases h1 : coeL a c x.1 with
      | none => simp [h1] at hy
      | some y1 =>
        cases h2 : coeL b d x.2 with
        | none => simp [h1, h2] at hy
        | some y2 =>
          simp [h1, h2] at hy
          subst hy
          obtain ⟨c1, c2, X1, X2, e1, e2, e3, e4⟩ := hr
          obtain ⟨rfl, rfl⟩ : X1 = [] ∧ X2 = [] := by
            have := e2; simp at this; exact this
          exact ⟨⟨c1, c2, [], [], e1, rfl, (iha h1 e3).1, (ihb h2 e4).1⟩, rfl⟩
    | _ => exact hc (by simpa [coeL] using hy) hr
  | ptr o a ih =>
    intro t x y cs hy hr
    cases t with
    | ref p b =>
      simp only [coeL] at hy
      cases h1 : coeL a b x with
      | none => simp [h1] at hy
      | some y1 =>
        simp [h1] at hy
        subst hy
        obtain ⟨bb, of, arr, E, fr, X', e1, e2, e3, e4, e5⟩ := hr
        simp only [Bool.not_true, Bool.and_false, Bool.false_eq_true, if_false, Bool.true_or] at e4 e5
        obtain ⟨e5, _, rfl⟩ := e5
        have h2 := (ih h1 e4).1
        have hsz : a.size = b.size := h2.len.symm.trans e4.len
        exact ⟨⟨bb, of, arr, E, fr, [], e1, e2, by rw [hsz]; exact e3, by rw [hsz]; exact h2, by simp [e5]⟩, rfl⟩
    | nilp =>
      simp [coeL] at hy
      subst hy
      exact ⟨hr, rfl⟩
    | _ => exact hc (by simpa [coeL] using hy) hr
  | ref o a ih =>
    intro t x y cs hy hr
    cases t with
    | ref p b =>
      simp only [coeL] at hy
      obtain ⟨bb, of, arr, E, fr, X', e1, e2, e3, e4, e5⟩ := hr
      simp only [Bool.not_true, Bool.and_false, Bool.false_eq_true, if_false, Bool.true_or] at e4 e5
      obtain ⟨e5, _, rfl⟩ := e5
      have h2 := (ih hy e4).1
      have hsz : a.size = b.size := h2.len.symm.trans e4.len
      exact ⟨⟨bb, of, arr, E, fr, [], e1, e2, by rw [hsz]; exact e3, by rw [hsz]; exact h2, by simp [e5]⟩, rfl⟩
    | _ => exact hc (by simpa [coeL] using hy) hr
  | sl o a ih =>
    intro t x y cs hy hr
    cases t with
    | sl p b =>
      simp only [coeL] at hy
      obtain ⟨he, he2⟩ := cast?_some hy
      simp only [Ty.sl.injEq, true_and] at he
      subst he
      have := eq_of_heq he2
      subst this
      refine ⟨?_, rfl⟩
      obtain ⟨a0, c, e1, e2, e3⟩ := hr
      refine ⟨a0, c, e1, e2, ?_⟩
      simpa using e3
    | nils =>
      simp [coeL] at hy
      subst hy
      obtain ⟨⟨a0, rfl⟩, _⟩ := hr
      exact ⟨⟨a0, 0, rfl, Nat.le_refl _, .inl ⟨rfl, rfl, rfl, rfl⟩⟩, rfl⟩
    | _ => exact hc (by simpa [coeL] using hy) hr
  | map o k v ihk ihv =>
    intro t x y cs hy hr
    cases t with
    | map p k2 v2 =>
      simp only [coeL] at hy
      obtain ⟨he, he2⟩ := cast?_some hy
      simp only [Ty.map.injEq, true_and] at he
      obtain ⟨rfl, rfl⟩ := he
      have := eq_of_heq he2
      subst this
      refine ⟨?_, rfl⟩
      obtain ⟨b, ents, clock, X', e1, e2, e3, e4, e5⟩ := hr
      refine ⟨b, ents, clock, X', e1, e2, e3, ?_, ?_⟩
      · simpa using e4
      · simpa using e5
    | _ => exact hc (by simpa [coeL] using hy) hr
  | _ => intro t x y cs hy hr; exact hc (by simpa [coeL] using hy) hr
theorem coe_rep {S : Set'} {l : Bool} : ∀ {τ t : Ty} {x : den t} {y : den τ} {cs : List Value} {X : List Nat}, coe τ t x = some y → Rep h S l t x cs X → Rep h S l τ y cs X ∧ τ.isAgg = t.isAgg := by
  intro τ
  have hc : ∀ {τ t : Ty} {x : den t} {y : den τ} {cs : List Value} {X : List Nat}, cast? (t := t) τ x = some y → Rep h S l t x cs X → Rep h S l τ y cs X ∧ τ.isAgg = t.isAgg := by
    intro τ t x y cs X hy hr
    obtain ⟨rfl, he⟩ := cast?_some hy
    have := eq_of_heq he
    subst this
    exact ⟨hr, rfl⟩
  induction τ generalizing l with
  | pair a b iha ihb =>
    intro t x y cs X hy hr
    cases t with
    | pair c d =>
      simp only [coe] at hy
      cases h1 : coe a c x.1 with
      | none => simp [h1] at hy
      | some y1 =>
        cases h2 : coe b d x.2 with
        | none => simp [h1, h2] at hy
        | some y2 =>
          simp [h1, h2] at hy
          subst hy
          obtain ⟨c1, c2, X1, X2, e1, e2, e3, e4⟩ := hr
          exact ⟨⟨c1, c2, X1, X2, e1, e2, (iha hc h1 e3).1, (ihb hc h2 e4).1⟩, rfl⟩
    | _ => exact hc (by simpa [coe] using hy) hr
  | ptr o a ih =>
    intro t x y cs X hy hr
    cases t with
    | ref p b =>
      simp only [coe] at hy
      cases ho : boolEq o p with
      | false => simp [ho] at hy
      | true =>
      obtain rfl := boolEq_iff ho
      simp only [ho] at hy
      cases h1 : coe a b x with
      | none => simp [h1] at hy
      | some y1 =>
        simp [h1] at hy
        subst hy
        obtain ⟨bb, of, arr, E, fr, X', e1, e2, e3, e4, e5⟩ := hr
        have h2 := (ih (fun {_ _ _ _ _ _} hy hr => by
          obtain ⟨rfl, he⟩ := cast?_some hy
          have := eq_of_heq he
          subst this
          exact ⟨hr, rfl⟩) h1 e4).1
        have hsz : a.size = b.size := h2.len.symm.trans e4.len
        exact ⟨⟨bb, of, arr, E, fr, X', e1, e2, by rw [hsz]; exact e3, by rw [hsz]; exact h2, by rw [hsz]; exact e5⟩, rfl⟩
    | nilp =>
      simp [coe] at hy
      subst hy
      exact ⟨hr, rfl⟩
    | _ => exact hc (by simpa [coe] using hy) hr
  | ref o a ih =>
    intro t x y cs X hy hr
    cases t with
    | ref p b =>
      simp only [coe] at hy
      cases ho : boolEq o p with
      | false => simp [ho] at hy
      | true =>
      obtain rfl := boolEq_iff ho
      simp only [ho] at hy
      obtain ⟨bb, of, arr, E, fr, X', e1, e2, e3, e4, e5⟩ := hr
      have h2 := (ih (fun {_ _ _ _ _ _} hy hr => by
          obtain ⟨rfl, he⟩ := cast?_some hy
          have := eq_of_heq he
          subst this
          exact ⟨hr, rfl⟩) hy e4).1
      have hsz : a.size = b.size := h2.len.symm.trans e4.len
      exact ⟨⟨bb, of, arr, E, fr, X', e1, e2, by rw [hsz]; exact e3, by rw [hsz]; exact h2, by rw [hsz]; exact e5⟩, rfl⟩
    | _ => exact hc (by simpa [coe] using hy) hr
  | sl o a ih =>
    intro t x y cs X hy hr
    cases t with
    | nils =>
      simp [coe] at hy
      subst hy
      obtain ⟨⟨a0, rfl⟩, rfl⟩ := hr
      exact ⟨⟨a0, 0, rfl, Nat.le_refl _, .inl ⟨rfl, rfl, rfl, rfl⟩⟩, rfl⟩
    | _ => exact hc (by simpa [coe] using hy) hr
  | _ => intro t x y cs X hy hr; exact hc (by simpa [coe] using hy) hr
theorem toV_ok {L I : Set'} {β : Nat → Value} {ρ : List (Nat × Root)} {len : Bool} {τ : Ty} {sv : SV} {v : Value} {a : den τ} (ht : toV len τ sv = some a) (hs : SVR h L I β ρ sv v) :
    ∃ cs, Rep h (Sx L I len) true τ a cs [] ∧ v = wrapV τ cs := by
  have hw : ∀ {l : Bool}, (!l || len) = true → ∀ b, Sx L I l b → Sx L I len b := by
    intro l hl b hb
    rcases hb with hb | ⟨hb, hb'⟩
    · exact .inl hb
    · subst hb; simp at hl; exact .inr ⟨hl, hb'⟩
  cases sv with
  | v l t b =>
    simp only [toV] at ht
    cases hl : (!l || len) with
    | false => simp [hl] at ht
    | true =>
      simp only [hl] at ht
      obtain ⟨cs, h1, h2, _⟩ := hs
      obtain ⟨h3, h4⟩ := coeL_rep ht h1
      exact ⟨cs, Rep.keep (fun b hb => ⟨hw hl b hb, rfl⟩) (fun _ _ => rfl) h3, by rw [h2]; simp [wrapV, h4]⟩
  | q l t b =>
    simp only [toV] at ht
    cases τ with
    | ref o u =>
      cases o with
      | true => simp at ht
      | false =>
        simp only at ht
        cases hl : (!l || len) with
        | false => simp [hl] at ht
        | true =>
          simp only [hl] at ht
          have h3 := (coeL_rep (τ := .ref false u) (t := .ref false t) (y := a) (by simpa [coeL] using ht) hs).1
          exact ⟨[v], Rep.keep (fun b hb => ⟨hw hl b hb, rfl⟩) (fun _ _ => rfl) h3, rfl⟩
    | ptr o u =>
      cases o with
      | true => simp at ht
      | false =>
        simp only at ht
        cases hl : (!l || len) with
        | false => simp [hl] at ht
        | true =>
          simp only [hl] at ht
          have h3 := (coeL_rep (τ := .ptr false u) (t := .ref false t) (y := a) (by simpa [coeL] using ht) hs).1
          exact ⟨[v], Rep.keep (fun b hb => ⟨hw hl b hb, rfl⟩) (fun _ _ => rfl) h3, rfl⟩
    | _ => simp at ht
  | nl =>
    simp only [toV] at ht
    cases τ with
    | sl o t =>
      simp at ht
      subst ht
      obtain ⟨a0, hs⟩ := hs
      exact ⟨[.slice a0 0 0], ⟨a0, 0, rfl, Nat.le_refl _, .inl ⟨rfl, rfl, rfl, rfl⟩⟩, hs⟩
    | _ => simp at ht
  | np =>
    simp only [toV] at ht
    cases τ with
    | ptr o t =>
      simp at ht
      subst ht
      exact ⟨[.pointer none], ⟨rfl, rfl⟩, hs⟩
    | _ => simp at ht
  | _ => simp [toV] at ht
end
end Go.Proofs.YthlpjdjipchdkaaDoor.E

namespace Go.Proofs.YthlpjdjipchdkaaDoor.E
open Go
set_option linter.unusedSimpArgs false
set_option linter.unusedVariables false
structure Less (F : Nat → List Nat) (I : Set') (σ : St) (I' : Set') (σ' : St) : Prop where
  sub : ∀ b, I b → I' b
  n : σ'.n = σ.n
  b : σ'.b = σ.b
  roots : ∀ k, LikeO (look σ.r k) (look σ'.r k) ∨ (look σ.r k ≠ none ∧ look σ'.r k = none)
  from' : ∀ b, I' b → I b ∨ ∃ k R, look σ.r k = some R ∧ look σ'.r k = none ∧ b ∈ F k
theorem Less.refl {F I σ} : Less F I σ I σ := ⟨fun _ h => h, rfl, rfl, fun _ => .inl (LikeO.refl _), fun _ h => .inl h⟩
theorem layB_trans : ∀ {t u w : Ty}, layB t u = true → layB u w = true → layB t w = true
  | .pair a b, u, w, h1, h2 => by
    cases u <;> simp [layB] at h1
    cases w <;> simp [layB] at h2
    simp [layB, layB_trans h1.1 h2.1, layB_trans h1.2 h2.2]
  | .arr n t, u, w, h1, h2 => by
    cases u <;> simp [layB] at h1
    rename_i m u
    obtain ⟨rfl, h1⟩ := h1
    obtain rfl := tyEq_iff h1
    exact h2
  | .unit, u, w, h1, h2 => by
    cases u <;> simp [layB] at h1
    exact h2
  | .int _, u, w, h1, h2 | .bool, u, w, h1, h2 | .str, u, w, h1, h2 | .sl _ _, u, w, h1, h2 | .ptr _ _, u, w, h1, h2 | .ref _ _, u, w, h1, h2 | .map _ _ _, u, w, h1, h2 | .hole _, u, w, h1, h2 | .raw _ _, u, w, h1, h2 | .nils, u, w, h1, h2 | .nilp, u, w, h1, h2 => by
    cases u <;> simp [layB, Ty.size] at h1 <;> cases w <;> simp_all [layB, Ty.size]
theorem Root.like.trans {R S T : Root} (h1 : R.like S) (h2 : S.like T) : R.like T := by
  cases R <;> cases S <;> simp only [Root.like] at h1 <;> cases T <;> simp only [Root.like] at h2 ⊢
  · exact layB_trans h1 h2
  · obtain ⟨rfl, h1⟩ := h1
    obtain ⟨rfl, h2⟩ := h2
    exact ⟨rfl, h1.trans h2⟩
theorem LikeO.trans {a b c : Option Root} (h1 : LikeO a b) (h2 : LikeO b c) : LikeO a c := by
  cases a <;> cases b <;> simp only [LikeO] at h1 <;> cases c <;> simp only [LikeO] at h2 ⊢
  exact h1.trans h2
theorem LikeO.some {R : Root} {o : Option Root} (h : LikeO o (some R)) : ∃ R0, o = some R0 ∧ R0.like R := by
  cases o with
  | none => exact h.elim
  | some R0 => exact ⟨R0, rfl, h⟩
theorem LikeO.none_iff {a b : Option Root} (h : LikeO a b) : a = none ↔ b = none := by
  cases a <;> cases b <;> simp_all [LikeO]
theorem Less.trans {F I σ I' σ' I'' σ''} (h1 : Less F I σ I' σ') (h2 : Less F I' σ' I'' σ'') : Less F I σ I'' σ'' where
  sub := fun b hb => h2.sub b (h1.sub b hb)
  n := h2.n.trans h1.n
  b := h2.b.trans h1.b
  roots := fun k => by
    rcases h1.roots k with h | ⟨h, h'⟩
    · rcases h2.roots k with g | ⟨g, g'⟩
      · exact .inl (h.trans g)
      · exact .inr ⟨fun e => g (h.none_iff.1 e), g'⟩
    · rcases h2.roots k with g | ⟨g, g'⟩
      · exact .inr ⟨h, g.none_iff.1 h'⟩
      · exact (g h').elim
  from' := fun b hb => by
    rcases h2.from' b hb with h | ⟨k, R, g1, g2, g3⟩
    · rcases h1.from' b h with h | ⟨k, R, g1, g2, g3⟩
      · exact .inl h
      · refine .inr ⟨k, R, g1, ?_, g3⟩
        rcases h2.roots k with g | ⟨g, _⟩
        · exact g.none_iff.1 g2
        · exact (g g2).elim
    · rcases h1.roots k with h | ⟨h, h'⟩
      · rw [g1] at h
        obtain ⟨R0, e, _⟩ := h.some
        exact .inr ⟨k, R0, e, g2, g3⟩
      · rw [h'] at g1; cases g1
theorem Less.back {F I σ I' σ'} (hl : Less F I σ I' σ') {k : Nat} {R : Root} (h : look σ'.r k = some R) : ∃ R0, look σ.r k = some R0 ∧ R0.like R := by
  rcases hl.roots k with g | ⟨_, g⟩
  · rw [h] at g; exact g.some
  · rw [g] at h; cases h
theorem Less.same {F I σ I' σ'} {β : Nat → Value} (hl : Less F I σ I' σ') {k : Nat} (h : look σ'.r k ≠ none ∨ look σ.r k = none) : Same β β σ.r σ'.r k := by
  refine ⟨?_, fun _ => rfl⟩
  rcases hl.roots k with g | ⟨g, g'⟩
  · exact g
  · rcases h with h | h
    · exact (h g').elim
    · exact (g h).elim
theorem Less.svr {F I σ I' σ'} {h : Hp} {L : Set'} {β : Nat → Value} (hl : Less F I σ I' σ') {sv : SV} {v : Value} (hu : ∀ r, sv.uses r = true → look σ'.r r ≠ none ∨ look σ.r r = none) (hs : SVR h L I β σ.r sv v) : SVR h L I' β σ'.r sv v :=
  SVR.mono (fun b hb => ⟨hl.sub b hb, rfl⟩) (fun _ _ => rfl) (fun r hr => hl.same (hu r hr)) hs
section
variable {C : Ctx} {I : Set'} {β : Nat → Value} {F : Nat → List Nat} {σ : St} {w : World} {tm : Array Value}
theorem frz_x (r : Nat) (l : Bool) (t : Ty) (xs : List (den t)) : frz r l t xs .x = .x := by simp [frz, SV.uses, SV.uses0]
def frz1 (r : Nat) (l : Bool) (t : Ty) (xs : List (den t)) (R : Root) : Root :=
  match R with
  | .box len u a => match holeIn r u with
    | true => match plugT r (.sl false t) xs u a with
      | ⟨u, a⟩ => .box (len || l) u a
    | false => .box len u a
  | R => R
theorem look_frzR {r : Nat} {l : Bool} {t : Ty} {xs : List (den t)} : ∀ (ρ : List (Nat × Root)) (k : Nat), look (frzR r l t xs ρ) k = (look ρ k).map (frz1 r l t xs)
  | [], k => rfl
  | (n, R) :: ρ, k => by
    simp only [frzR, look]
    cases Nat.beq n k with
    | true => cases R <;> rfl
    | false => exact look_frzR ρ k
theorem frz1_box {r : Nat} {l : Bool} {t : Ty} {xs : List (den t)} {len : Bool} {u : Ty} {a : den u} (h : holeIn r u = true) :
    frz1 r l t xs (.box len u a) = .box (len || l) (plugT r (.sl false t) xs u a).t (plugT r (.sl false t) xs u a).a := by simp [frz1, h]
theorem frz1_like {r : Nat} {l : Bool} {t : Ty} {xs : List (den t)} (R : Root) : R.like (frz1 r l t xs R) := by
  cases R with
  | box len u a =>
    cases h : holeIn r u with
    | true => rw [frz1_box h]; exact (plug_holes (o := 0)).2
    | false => simp [frz1, h, Root.like, layB_refl]
  | arr _ _ _ _ => exact Root.like.refl _
  | map _ _ _ _ _ => exact Root.like.refl _
theorem look_frz {r k : Nat} {l : Bool} {t : Ty} {xs : List (den t)} {ρ : List (Nat × Root)} : (k = r → look (frzR r l t xs (del ρ r)) k = none) ∧ (k ≠ r → look (frzR r l t xs (del ρ r)) k = (look ρ k).map (frz1 r l t xs)) := by
  refine ⟨?_, ?_⟩
  · rintro rfl; rw [look_frzR, look_del_same]; rfl
  · intro h; rw [look_frzR, look_del_ne h]
theorem frz_less {F : Nat → List Nat} {r : Nat} {l f : Bool} {t : Ty} {xs : List (den t)} (hr : look σ.r r = some (.arr f l t xs)) (hf : t.flat = true) :
    Less F I σ (fun b => I b ∨ b ∈ F r) (σ.frz r) ∧ (σ.frz r).r = frzR r l t xs (del σ.r r) := by
  have e : σ.frz r = { t := mapT (E.frz r l t xs) σ.t, c := [], r := frzR r l t xs (del σ.r r), n := σ.n, b := σ.b, k := mapK (E.frz r l t xs) σ.k } := by simp [St.frz, hr, hf]
  rw [e]
  refine ⟨⟨fun b hb => .inl hb, rfl, rfl, fun k => ?_, fun b hb => ?_⟩, rfl⟩
  · by_cases hk : k = r
    · subst hk
      exact .inr ⟨by rw [hr]; simp, look_frz.1 rfl⟩
    · left
      rw [look_frz.2 hk]
      cases look σ.r k with
      | none => exact trivial
      | some R => exact frz1_like R
  · rcases hb with hb | hb
    · exact .inl hb
    · exact .inr ⟨r, _, hr, look_frz.1 rfl, hb⟩
theorem Inv.frz (hi : Inv C I β F σ w tm) {r : Nat} {f l : Bool} {t : Ty} {xs : List (den t)} (hr : look σ.r r = some (.arr f l t xs)) (hf : t.flat = true) :
    Inv C (fun b => I b ∨ b ∈ F r) β F (σ.frz r) w tm ∧
    (∀ sv v, SVR (hpOf w) C.L I β σ.r sv v → SVR (hpOf w) C.L (fun b => I b ∨ b ∈ F r) β (σ.frz r).r (E.frz r l t xs sv) v) := by
  obtain ⟨hless, hρ⟩ := frz_less (I := I) (F := F) hr hf
  have hrep := arr_rep (hi.roots r _ hr) hf
  have hw : ∀ len b, Sx C.L I len b → Sx C.L (fun b => I b ∨ b ∈ F r) (len || l) b := by
    rintro len b (hb | ⟨h1, hb⟩)
    · exact .inl (.inl hb)
    · exact .inr ⟨by simp [h1], hb⟩
  have hno : ∀ sv v, sv.uses r = false → SVR (hpOf w) C.L I β σ.r sv v → SVR (hpOf w) C.L (fun b => I b ∨ b ∈ F r) β (σ.frz r).r sv v := by
    intro sv v hu hs
    refine hless.svr (fun k hk => ?_) hs
    have hne : k ≠ r := by rintro rfl; rw [hu] at hk; cases hk
    rw [hρ, look_frz.2 hne]
    cases look σ.r k <;> simp
  have hy : ∀ len l2, Rep (hpOf w) (Sx C.L (fun b => I b ∨ b ∈ F r) (len || l)) l2 (.sl false t) xs [β r] [] := fun len l2 => by
    refine rep_any (t := .sl false t) rfl (Rep.keep (S := Sx C.L (fun b => I b ∨ b ∈ F r) l) (fun b hb => ⟨?_, rfl⟩) (fun _ _ => rfl) hrep)
    rcases hb with hb | ⟨h1, hb⟩
    · exact .inl hb
    · exact .inr ⟨by simp [h1], hb⟩
  have hholes : ∀ {u : Ty} {a : den u} {cs : List Value}, Holes β σ.r u cs → Holes β (σ.frz r).r (plugT r (.sl false t) xs u a).t cs := by
    intro u a cs hh p hp hl
    obtain ⟨h1, h2⟩ := (plug_holes (k := r) (y := xs) (t := u) (x := a) (o := 0)).1 p hp
    refine hh p h1 (fun e => hl ?_)
    rw [hρ, look_frz.2 h2, e]; rfl
  have hmap : ∀ sv v, SVR (hpOf w) C.L I β σ.r sv v → SVR (hpOf w) C.L (fun b => I b ∨ b ∈ F r) β (σ.frz r).r (E.frz r l t xs sv) v := by
    intro sv v hs
    cases sv with
    | sf k =>
      simp only [E.frz]
      cases hk : Nat.beq k r with
      | false => exact hno _ _ (by simp [SV.uses, SV.uses0, hk]) hs
      | true =>
        obtain rfl := Nat.eq_of_beq_eq_true hk
        obtain ⟨f', l', t', xs', h1, h2⟩ := hs
        subst h2
        exact ⟨[β k], hrep, rfl, Holes.solid rfl⟩
    | s k lo n =>
      simp only [E.frz]
      cases hk : Nat.beq k r with
      | false => exact hno _ _ (by simp [SV.uses, SV.uses0, hk]) hs
      | true =>
        obtain rfl := Nat.eq_of_beq_eq_true hk
        obtain ⟨f', l', t', xs', h1, h2, h3⟩ := hs
        rw [hr] at h1
        simp only [Option.some.injEq, Root.arr.injEq] at h1
        obtain ⟨rfl, rfl, rfl, h1⟩ := h1
        have h1 := eq_of_heq h1
        subst h1
        exact ⟨[v], sub_rep hrep h3 h2, rfl, Holes.solid rfl⟩
    | v len u a =>
      simp only [E.frz]
      cases hk : holeIn r u with
      | false => exact hno _ _ (by simp [SV.uses, SV.uses0, hk]) hs
      | true =>
        obtain ⟨cs, g1, g2, g3⟩ := hs
        have g4 := plug_rep (hy len true) (Rep.keep (S' := Sx C.L (fun b => I b ∨ b ∈ F r) (len || l)) (fun b hb => ⟨hw len b hb, rfl⟩) (fun _ _ => rfl) g1)
          (fun p hp hp2 => by rw [g3 p hp (by rw [hp2, hr]; simp), hp2])
        exact ⟨cs, g4, by rw [g2]; simp only [wrapV, plug_agg], hholes g3⟩
    | x => trivial
    | np => exact hs
    | nl => exact hs
    | q l' t' a => exact hno _ _ rfl hs
    | p k z =>
      simp only [E.frz]
      cases hk : (SV.p k z).uses r with
      | true => trivial
      | false => exact hno _ _ hk hs
    | mp k =>
      simp only [E.frz]
      cases hk : (SV.mp k).uses r with
      | true => trivial
      | false => exact hno _ _ hk hs
    | fn g a b =>
      simp only [E.frz]
      cases hk : (SV.fn g a b).uses r with
      | true => trivial
      | false => exact hno _ _ hk hs
    | tup m =>
      simp only [E.frz]
      cases hk : (SV.tup m).uses r with
      | true => trivial
      | false => exact hno _ _ hk hs
  refine ⟨?_, hmap⟩
  have e : σ.frz r = { t := mapT (E.frz r l t xs) σ.t, c := [], r := frzR r l t xs (del σ.r r), n := σ.n, b := σ.b, k := mapK (E.frz r l t xs) σ.k } := by simp [St.frz, hr, hf]
  refine hi.turn (f := E.frz r l t xs) (frz_x r l t xs) (by rw [e]) (fun i => by rw [e]; exact find_mapT (frz_x r l t xs) σ.t i) (by rw [e]) (fun k e' u v hm => by rw [e] at hm; simp at hm) (Nat.le_refl _) rfl (fun b hb => .inl hb) ?_ (fun _ _ _ => rfl) hmap ?_ ?_
  · rintro b (hb | hb)
    · exact .inl hb
    · have := hi.own r _ hr b hb
      exact .inr ⟨this.2.2.1, this.2.2.2⟩
  · intro k R' hl
    have hne : k ≠ r := by rintro rfl; rw [hρ, look_frz.1 rfl] at hl; cases hl
    rw [hρ, look_frz.2 hne] at hl
    cases hl0 : look σ.r k with
    | none => rw [hl0] at hl; cases hl
    | some R =>
      rw [hl0] at hl
      simp only [Option.map_some, Option.some.injEq] at hl
      subst hl
      have h1 := hi.root hl0
      have hF : ∀ b ∈ F k, hpOf w b = hpOf w b := fun _ _ => rfl
      refine ⟨?_, ?_, h1.nodup, fun b hb => ?_⟩
      · cases R with
        | box len u a =>
          cases hh : holeIn r u with
          | false =>
            simp only [frz1, hh]
            exact h1.rep.keep (fun b hb => ⟨.inl hb, rfl⟩) (fun _ _ => rfl) hF
          | true =>
            rw [frz1_box hh]
            obtain ⟨b, arr, E', fr, g1, g2, g3⟩ := h1.holes
            obtain ⟨b', o, arr', E'', fr', X', e1, e2, e3, e4, e5⟩ := h1.rep
            rw [g1] at e1
            simp only [List.cons.injEq, Value.pointer.injEq, Option.some.injEq, Addr.mk.injEq, and_true] at e1
            obtain ⟨rfl, rfl⟩ := e1
            rw [g2] at e2
            simp only [Option.some.injEq, Obj.cells.injEq] at e2
            obtain ⟨rfl, rfl, rfl⟩ := e2
            simp only [Bool.and_true, if_true, Bool.not_false, Bool.or_false, Bool.not_true] at e4 e5
            have hsz := layB_size (plug_holes (k := r) (y := xs) (t := u) (x := a) (o := 0)).2
            have hcs : List.take u.size (List.drop 0 arr.toList) = arr.toList := by
              rw [List.drop_zero, List.take_of_length_le]; rw [Array.length_toList]; omega
            rw [hcs] at e4
            have g4 := plug_rep (hy len false) (Rep.keep (S' := Sx C.L (fun b => I b ∨ b ∈ F r) (len || l)) (fun b hb => ⟨hw len b hb, rfl⟩) (fun _ _ => rfl) e4)
              (fun p hp hp2 => by rw [g3 p hp (by rw [hp2, hr]; simp), hp2])
            refine ⟨b, 0, arr, E', fr, X', by rw [g1], g2, by rw [← hsz]; exact e3, ?_, ?_⟩
            · rw [← hsz, hcs]; simpa using g4
            · simp only [Bool.and_true, if_true, Bool.not_false]; rw [← hsz]; exact e5
        | arr f' len u ys => exact h1.rep.keep (fun b hb => ⟨.inl hb, rfl⟩) (fun _ _ => rfl) hF
        | map len kt vt es z => exact h1.rep.keep (fun b hb => ⟨.inl hb, rfl⟩) (fun _ _ => rfl) hF
      · have hsome : ∀ {j : Nat}, look (σ.frz r).r j ≠ none → look σ.r j ≠ none := by
          intro j hj hn
          rw [hρ] at hj
          by_cases hjr : j = r
          · exact hj (look_frz.1 hjr)
          · rw [look_frz.2 hjr, hn] at hj; exact hj rfl
        cases R with
        | box len u a =>
          obtain ⟨b, arr, E', fr, g1, g2, g3⟩ := h1.holes
          cases hh : holeIn r u with
          | false =>
            simp only [frz1, hh]
            exact ⟨b, arr, E', fr, g1, g2, fun p hp hl => g3 p hp (hsome hl)⟩
          | true =>
            rw [frz1_box hh]
            exact ⟨b, arr, E', fr, g1, g2, hholes g3⟩
        | arr f' len u ys => trivial
        | map len kt vt es z =>
          cases z with
          | none => trivial
          | some p => obtain ⟨y, j⟩ := p; exact fun hl => h1.holes (hsome hl)
      · have := h1.own b hb
        refine ⟨?_, this.2⟩
        rintro (h | h)
        · exact this.1 h
        · exact hi.disj k r R _ hne hl0 hr b hb h
  · intro k k' R R' hne hl hl'
    obtain ⟨R0, e1, _⟩ := hless.back hl
    obtain ⟨R0', e1', _⟩ := hless.back hl'
    exact hi.disj k k' R0 R0' hne e1 e1'
theorem firstHole_in : ∀ {t : Ty} {k : Nat}, firstHole t = some k → holeIn k t = true
  | .hole j, k, h => by simp [firstHole] at h; subst h; simp [holeIn]
  | .pair a b, k, h => by
    simp only [firstHole] at h
    simp only [holeIn, Bool.or_eq_true]
    cases ha : firstHole a with
    | some j => rw [ha] at h; simp at h; subst h; exact .inl (firstHole_in ha)
    | none => rw [ha] at h; exact .inr (firstHole_in h)
  | .int _, k, h | .bool, k, h | .str, k, h | .unit, k, h | .arr _ _, k, h | .sl _ _, k, h | .ptr _ _, k, h | .ref _ _, k, h | .map _ _ _, k, h | .raw _ _, k, h | .nils, k, h | .nilp, k, h => by simp [firstHole] at h
theorem shareH_ok : ∀ (n : Nat) {I : Set'} {σ : St} {len : Bool} {t : Ty} {a : den t} {sv' : SV} {σ' : St} {v : Value}, Inv C I β F σ w tm → SVR (hpOf w) C.L I β σ.r (.v len t a) v → shareH n σ len t a = (sv', σ') →
    ∃ I', Inv C I' β F σ' w tm ∧ SVR (hpOf w) C.L I' β σ'.r sv' v ∧ Less F I σ I' σ'
  | 0, I, σ, len, t, a, sv', σ', v, hi, hs, he => by
    simp only [shareH, Prod.mk.injEq] at he
    obtain ⟨rfl, rfl⟩ := he
    exact ⟨I, hi, trivial, Less.refl⟩
  | n + 1, I, σ, len, t, a, sv', σ', v, hi, hs, he => by
    simp only [shareH] at he
    have hx : (.x, σ) = (sv', σ') → ∃ I', Inv C I' β F σ' w tm ∧ SVR (hpOf w) C.L I' β σ'.r sv' v ∧ Less F I σ I' σ' := by
      intro h
      simp only [Prod.mk.injEq] at h
      obtain ⟨rfl, rfl⟩ := h
      exact ⟨I, hi, trivial, Less.refl⟩
    cases hk : firstHole t with
    | none =>
      simp only [hk, Prod.mk.injEq] at he
      obtain ⟨rfl, rfl⟩ := he
      exact ⟨I, hi, hs, Less.refl⟩
    | some k =>
      simp only [hk] at he
      cases hl : look σ.r k with
      | none => rw [hl] at he; exact hx he
      | some R =>
        rw [hl] at he
        cases R with
        | box _ _ _ => exact hx he
        | map _ _ _ _ _ => exact hx he
        | arr f l u xs =>
          simp only at he
          cases hf : u.flat with
          | false => rw [hf] at he; exact hx he
          | true =>
            rw [hf] at he
            simp only at he
            obtain ⟨h1, h2⟩ := hi.frz hl hf
            have h3 := h2 _ _ hs
            simp only [frz, firstHole_in hk, plugV] at h3
            obtain ⟨I', g1, g2, g3⟩ := shareH_ok n h1 h3 he
            exact ⟨I', g1, g2, (frz_less (I := I) hl hf).1.trans g3⟩
theorem shared_ok (hi : Inv C I β F σ w tm) {sv sv' : SV} {σ' : St} {v : Value} (hs : SVR (hpOf w) C.L I β σ.r sv v) (he : sharedV σ sv = (sv', σ')) :
    ∃ I', Inv C I' β F σ' w tm ∧ SVR (hpOf w) C.L I' β σ'.r sv' v ∧ Less F I σ I' σ' := by
  have hsame : (sv, σ) = (sv', σ') → ∃ I', Inv C I' β F σ' w tm ∧ SVR (hpOf w) C.L I' β σ'.r sv' v ∧ Less F I σ I' σ' := by
    intro h
    simp only [Prod.mk.injEq] at h
    obtain ⟨rfl, rfl⟩ := h
    exact ⟨I, hi, hs, Less.refl⟩
  have hx : (.x, σ) = (sv', σ') → ∃ I', Inv C I' β F σ' w tm ∧ SVR (hpOf w) C.L I' β σ'.r sv' v ∧ Less F I σ I' σ' := by
    intro h
    simp only [Prod.mk.injEq] at h
    obtain ⟨rfl, rfl⟩ := h
    exact ⟨I, hi, trivial, Less.refl⟩
  have hrest : ∀ {r : Nat}, sv.root = some r → (match look σ.r r with
      | some (.arr _ l t xs) => match t.flat with
        | true => (frz r l t xs sv, σ.frz r)
        | false => (.x, σ)
      | _ => (.x, σ)) = (sv', σ') → ∃ I', Inv C I' β F σ' w tm ∧ SVR (hpOf w) C.L I' β σ'.r sv' v ∧ Less F I σ I' σ' := by
    intro r _ he
    cases hl : look σ.r r with
    | none => rw [hl] at he; exact hx he
    | some R =>
      rw [hl] at he
      cases R with
      | box _ _ _ => exact hx he
      | map _ _ _ _ _ => exact hx he
      | arr f l u xs =>
        simp only at he
        cases hf : u.flat with
        | false => rw [hf] at he; exact hx he
        | true =>
          rw [hf] at he
          simp only [Prod.mk.injEq] at he
          obtain ⟨rfl, rfl⟩ := he
          obtain ⟨h1, h2⟩ := hi.frz hl hf
          exact ⟨_, h1, h2 _ _ hs, (frz_less (I := I) hl hf).1⟩
  cases sv with
  | v len t a =>
    simp only [sharedV] at he
    cases hsd : solid t with
    | true => rw [hsd] at he; exact hsame he
    | false => rw [hsd] at he; exact shareH_ok 9 hi hs he
  | sf r => exact hrest rfl (by unfold sharedV at he; exact he)
  | s r lo n => exact hrest rfl (by unfold sharedV at he; exact he)
  | _ => exact hsame (by simpa [sharedV, SV.root] using he)
end
end Go.Proofs.YthlpjdjipchdkaaDoor.E

