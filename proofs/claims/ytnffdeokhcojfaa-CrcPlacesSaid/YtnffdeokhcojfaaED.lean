/- A plain evaluator of the program's form on data by value, and the proof that it is sound. No condition. -/
import Derived.Test.YtnffdeokhcojfaaEC
import Derived.ProofKit

namespace Go.Proofs.Ytnffdeokhcojfaa.E
open Go
set_option linter.unusedSimpArgs false
set_option linter.unusedVariables false

section
variable {C C' : Ctx} {I I1 : Set'} {β β1 : Nat → Value} {F F1 : Nat → List Nat} {w w' : World} {tm tm' : Array Value}

theorem box_ptr {h : Hp} {L I : Set'} {v : Value} {l : Bool} {t : Ty} {a : den t} {X : List Nat} (hr : RootR h L I v (.box l t a) X) : ptrOf v 0 = v := by
  obtain ⟨b, of, arr, E', fr, X', e1, _⟩ := hr
  simp only [List.cons.injEq, and_true] at e1
  rw [e1]; simp [ptrOf]

theorem off_nil {R : Root} {o : Nat} {u : Ty} (h : R.off [] = some (o, u)) : o = 0 := by cases R <;> simp [Root.off, selOff] at h <;> omega

theorem p_val {h : Hp} {L I : Set'} {ρ : List (Nat × Root)} {r : Nat} {v : Value} (hs : SVR h L I β ρ (.p r []) v) : v = ptrOf (β r) 0 := by
  obtain ⟨R, o, u, _, h2, _, h4⟩ := hs
  rw [h4, off_nil h2]

theorem sf_val {h : Hp} {L I : Set'} {ρ : List (Nat × Root)} {r : Nat} {v : Value} (hs : SVR h L I β ρ (.sf r) v) : v = β r := by
  obtain ⟨_, _, _, _, h⟩ := hs
  exact h

theorem mem_names {n : Nat} {a b m : List Nat} (h : n ∉ without (appN a b) m) : (n ∉ a ∧ n ∉ b) ∨ n ∈ m := by
  by_cases h1 : n ∈ appN a b
  · exact .inr (mem_without h1 h)
  · left
    rw [mem_appN] at h1
    exact ⟨fun h => h1 (.inl h), fun h => h1 (.inr h)⟩

theorem conv_root {R : Root} {v : Value} {X : List Nat} {h : Hp} (hc : (∀ b, C'.L b → C.L b) ∨ R.len = false) (hr : RootR h C'.L I1 v R X) : RootR h C.L I1 v R X := by
  rcases hc with hc | hc
  · cases R with
    | box l t a => exact Rep.wide (Sx.up hc (fun _ h => h) (fun h => h)) hr
    | arr l t a => exact Rep.wide (Sx.up hc (fun _ h => h) (fun h => h)) hr
  · have key : ∀ {l : Bool}, l = false → ∀ b, Sx C'.L I1 l b → Sx C.L I1 l b := by
      rintro l rfl b hb
      rcases hb with hb | ⟨hb, _⟩
      · exact .inl hb
      · cases hb
    cases R with
    | box l t a => exact Rep.wide (key hc) hr
    | arr l t a => exact Rep.wide (key hc) hr

/-- out of a loop -/
theorem leave {σ : St} {c : Cut} {asg : List Nat} {kv : denL (ktys c.ks)} {xv b : denL (xtys c.xs)} (hi : Inv C I β F σ w tm) (hc : cutOk σ asg c = true) (hx : extract σ c.xs = some xv) (hpk : pinOk σ c.ks = true)
    (hW : Within C C' I F w (takenNames σ c.xs)) (hLL : klents σ c.ks = [] → ∀ b, C'.L b → C.L b) (h2 : Inv C' I1 β1 F1 (fill σ.n c.ks kv c.xs b) w' tm') (htm : ∀ i, natMem i asg = false → tm'.getD i undef = tm.getD i undef) :
    ∃ β2 F2, Inv C I1 β2 F2 (behind σ asg c b) w' tm' := by
  simp only [cutOk, Bool.and_eq_true] at hc
  obtain ⟨⟨⟨⟨⟨⟨⟨c1, c2⟩, c3⟩, c4⟩, c5⟩, c6⟩, c7⟩, c8⟩ := hc
  obtain ⟨d3, _⟩ := apart_iff c2
  obtain ⟨e1, e2⟩ := apart_iff c3
  obtain ⟨e3, e4⟩ := apart_iff c4
  have hL8 : (∀ b, C'.L b → C.L b) ∨ noLen c.xs = true := by
    simp only [Bool.or_eq_true] at c8
    rcases c8 with h | h
    · left
      apply hLL
      cases hq : klents σ c.ks with
      | nil => rfl
      | cons _ _ => rw [hq] at h; cases h
    · exact .inr h
  have hkeys : ((appT (xslots c.xs b) (kslots c.ks kv)).map (·.1)).Nodup := by
    rw [appT_map, xslots_keys, kslots_keys, List.nodup_append]
    exact ⟨e1, e3, fun a ha b hb e => e2 a ha (e ▸ hb)⟩
  have hslot : ∀ i sv, (i, sv) ∈ appT (xslots c.xs b) (kslots c.ks kv) → SVR (hpOf w') C'.L I1 β1 (xroots c.xs b) sv (tm'.getD i undef) := by
    intro i sv h
    have h1 := h2.slots i
    simp only [fill] at h1
    rw [find_of_nodup hkeys h] at h1
    exact h1
  have hnk : ∀ s ∈ kslotsOf c.ks, natMem s asg = false := by
    intro s hs
    cases hq : natMem s asg with
    | false => rfl
    | true => exact (e4 s hs (natMem_iff.1 hq)).elim
  refine ⟨_, _, merge (β' := β1) (F' := F1) (tk := takenNames σ c.xs) (asg := asg) (ρx := xroots c.xs b) (xt := xslots c.xs b) hi hW (taken_there hx) h2.room ?_ ?_ ?_ ?_ htm h2.size⟩
  · intro k R h
    have hk : Kept C' I1 w' (β1 k) R (F1 k) := ⟨h2.roots k R h, h2.nodup k R h, h2.own k R h⟩
    refine ⟨hk, conv_root ?_ hk.root⟩
    rcases hL8 with h8 | h8
    · exact .inl h8
    · exact .inr (noLen_root h8 h)
  · exact h2.disj
  · intro i sv h
    have h1 := hslot i sv (appT_mem.2 (.inl h))
    rcases hL8 with h8 | h8
    · exact SVR.wide h8 (fun _ h => h) h1
    · rcases noLen_slot h8 h with ⟨τ, a, rfl⟩ | ⟨k, rfl⟩
      · obtain ⟨cs, g1, g2⟩ := h1
        refine ⟨cs, g1.wide (fun b hb => ?_), g2⟩
        rcases hb with hb | ⟨hb, _⟩
        · exact .inl hb
        · cases hb
      · exact h1
  · intro r R hl hr
    rcases mem_names hr with ⟨h1, h3⟩ | h1
    · left
      refine ⟨h3, ?_⟩
      cases hq : look (xroots c.xs b) r with
      | none => rfl
      | some R' => exact (h1 (xroots_name c.xs hq)).elim
    · right
      rcases mem_appN.1 h1 with h1 | h1
      · obtain ⟨l, t, a, g1, l', a', g2, _⟩ := box_like (xv' := b) d3 (allIn_mem c6 r h1) hx
        rw [hl] at g1
        obtain rfl := Option.some.inj g1
        refine ⟨_, g2, rfl, ?_⟩
        obtain ⟨s, s1, s2, s3⟩ := pinB_mem kv h1
        have k1 := hi.slots s
        rw [s3 σ hpk] at k1
        have k2 := hslot s _ (appT_mem.2 (.inr s2))
        have k3 := htm s (hnk s s1)
        rw [p_val k1, p_val k2] at k3
        rw [box_ptr (hi.roots r _ hl), box_ptr (h2.roots r _ g2)] at k3
        exact k3
      · obtain ⟨l, t, a, g1, l', a', g2⟩ := arr_like (xv' := b) d3 (allIn_mem c7 r h1) hx
        rw [hl] at g1
        obtain rfl := Option.some.inj g1
        obtain ⟨s, s1, s2, s3⟩ := pinA_mem kv h1
        have k1 := hi.slots s
        rw [s3 σ hpk] at k1
        have k2 := hslot s _ (appT_mem.2 (.inr s2))
        have k3 := htm s (hnk s s1)
        rw [sf_val k1, sf_val k2] at k3
        refine ⟨_, g2, ⟨rfl, ?_⟩, k3⟩
        obtain ⟨a1, c1, q1, _⟩ := hi.roots r _ hl
        obtain ⟨a2, c2, q2, _⟩ := h2.roots r _ g2
        simp only [List.cons.injEq, and_true] at q1 q2
        rw [q1, q2] at k3
        simp only [Value.slice.injEq] at k3
        exact k3.2.1.symm

theorem broots_ok {σ : St} {k : Nat} {R : Root} : ∀ {xs : List LV} {b : denL (btys xs)}, extractB σ xs = some b → look (broots xs b) k = some R → k ∈ boxNames xs ∧ (noLen xs = true → R.len = false) ∧ ∃ R0, look σ.r k = some R0 ∧ ∀ h L I v X, RootR h L I v R0 X → RootR h L I v R X
  | [], _, _, h => by simp [broots, look] at h
  | .r n len τ :: l, (a, b), he, h => by
    simp only [extractB] at he
    split at he
    · rename_i len' t a0 hl
      split at he
      · rename_i y r hlen hc hr
        cases he
        obtain ⟨rfl, hx⟩ := cast?_some hc
        have := eq_of_heq hx
        subst this
        simp only [broots] at h
        by_cases e : k = n
        · subst e
          rw [look_cons_same] at h
          obtain rfl := Option.some.inj h
          refine ⟨by simp [boxNames], fun hn => ?_, _, hl, fun h L I v X hr => (RootR.up hlen).1 hr⟩
          simp only [noLen, Bool.and_eq_true, Bool.not_eq_true'] at hn
          exact hn.1
        · rw [look_cons_ne e] at h
          obtain ⟨g1, g2, g3⟩ := broots_ok (xs := l) hr h
          refine ⟨by simp [boxNames, g1], fun hn => g2 ?_, g3⟩
          simp only [noLen, Bool.and_eq_true, Bool.not_eq_true'] at hn
          exact hn.2
      · simp at he
    · simp at he
  | .t _ _ _ :: l, b, he, h => by
    obtain ⟨g1, g2, g3⟩ := broots_ok (xs := l) he h
    exact ⟨g1, fun hn => g2 (by simp only [noLen, Bool.and_eq_true, Bool.not_eq_true'] at hn; exact hn.2), g3⟩
  | .a _ _ _ :: l, b, he, h => by
    obtain ⟨g1, g2, g3⟩ := broots_ok (xs := l) he h
    exact ⟨g1, fun hn => g2 (by simp only [noLen, Bool.and_eq_true, Bool.not_eq_true'] at hn; exact hn.2), g3⟩
  | .o _ _ _ :: l, b, he, h => by
    obtain ⟨g1, g2, g3⟩ := broots_ok (xs := l) he h
    exact ⟨g1, fun hn => g2 (by simp only [noLen, Bool.and_eq_true, Bool.not_eq_true'] at hn; exact hn.2), g3⟩

/-- a return out of a loop -/
theorem leaveB {σ σ' : St} {c : Cut} {asg : List Nat} {xv : denL (xtys c.xs)} {b : denL (btys c.xs)} {a a' : Act} {rs : List Ty} {rv : List ResultVar} {q : denL rs} (hi : Inv C I β F σ w a.tmps) (hc : cutOk σ asg c = true) (hx : extract σ c.xs = some xv) (hpk : pinOk σ c.ks = true) (kv : denL (ktys c.ks))
    (hW : Within C C' I F w (takenNames σ c.xs)) (hLL : klents σ c.ks = [] → ∀ b, C'.L b → C.L b) (h2 : RetS C' rs rv q σ' w' a') (hb : outB σ' c = some b) (htm : ∀ i, natMem i asg = false → a'.tmps.getD i undef = a.tmps.getD i undef) :
    RetS C rs rv q (behindB σ asg c b) w' a' := by
  simp only [cutOk, Bool.and_eq_true] at hc
  obtain ⟨⟨⟨⟨⟨⟨⟨c1, c2⟩, c3⟩, c4⟩, c5⟩, c6⟩, c7⟩, c8⟩ := hc
  obtain ⟨d3, _⟩ := apart_iff c2
  obtain ⟨e3, e4⟩ := apart_iff c4
  have hL8 : (∀ b, C'.L b → C.L b) ∨ noLen c.xs = true := by
    simp only [Bool.or_eq_true] at c8
    rcases c8 with h | h
    · left
      apply hLL
      cases hq : klents σ c.ks with
      | nil => rfl
      | cons _ _ => rw [hq] at h; cases h
    · exact .inr h
  have hnk : ∀ s ∈ kslotsOf c.ks, natMem s asg = false := by
    intro s hs
    cases hq : natMem s asg with
    | false => rfl
    | true => exact (e4 s hs (natMem_iff.1 hq)).elim
  unfold outB at hb
  cases hp' : pinOk σ' c.ks with
  | false => simp [hp'] at hb
  | true =>
    simp only [hp'] at hb
    obtain ⟨hd, vals, hrv, I1, β1, F1, Ys, hv, hR, hn, hown, hap⟩ := h2
    rw [hW.P] at hrv
    have hpres := taken_there hx
    have hroot : ∀ k R, look (broots c.xs b) k = some R → Kept C' I1 w' (β1 k) R (F1 k) := by
      intro k R h
      obtain ⟨_, _, R0, g1, g2⟩ := broots_ok hb h
      exact ⟨g2 _ _ _ _ _ (hv.roots k R0 g1), hv.nodup k R0 g1, hv.own k R0 g1⟩
    have hm := merge (β' := β1) (F' := F1) (tk := takenNames σ c.xs) (asg := asg) (gone := without (appN (xnames c.xs) (takenNames σ c.xs)) (pinsB c.ks)) (ρx := broots c.xs b) (xt := []) hi hW hpres hv.room
      (fun k R h => ⟨hroot k R h, conv_root (by
        rcases hL8 with h8 | h8
        · exact .inl h8
        · exact .inr ((broots_ok hb h).2.1 h8)) (hroot k R h).root⟩)
      (fun k k' R R' hne h h' => by
        obtain ⟨_, _, R0, g1, _⟩ := broots_ok hb h
        obtain ⟨_, _, R0', g1', _⟩ := broots_ok hb h'
        exact hv.disj k k' R0 R0' hne g1 g1')
      (by intro i sv h; simp at h)
      (by
        intro r R hl hr
        rcases mem_names hr with ⟨h1, h3⟩ | h1
        · left
          refine ⟨h3, ?_⟩
          cases hq : look (broots c.xs b) r with
          | none => rfl
          | some R' => exact (h1 (box_name (broots_ok hb hq).1)).elim
        · right
          obtain ⟨l, t, x0, g1, l', a2, _, g3⟩ := box_like (xv' := xv) d3 (allIn_mem c6 r h1) hx
          obtain ⟨l3, a3, g4⟩ := g3 b
          rw [hl] at g1
          obtain rfl := Option.some.inj g1
          refine ⟨_, g4, rfl, ?_⟩
          obtain ⟨s, s1, s2, s3⟩ := pinB_mem kv h1
          have k1 := hi.slots s
          rw [s3 σ hpk] at k1
          have k2 : SVR (hpOf w') C'.L I1 β1 σ'.r (find σ'.t s) (a'.tmps.getD s undef) := hv.slots s
          rw [s3 σ' hp'] at k2
          have k3 := htm s (hnk s s1)
          rw [p_val k1, p_val k2] at k3
          rw [box_ptr (hi.roots r _ hl), box_ptr (hroot r _ g4).root] at k3
          exact k3)
      htm (n' := a'.tmps.size) rfl
    refine ⟨hd, vals, hrv, I1, _, _, Ys, hm, hR, hn, ?_, ?_⟩
    · intro k hk
      obtain ⟨h1, h2, h3, h4⟩ := hown k hk
      refine ⟨h1, fun h => h2 (hW.L k h), h3, ?_⟩
      rcases h4 with h4 | h4
      · obtain ⟨r, hr, hbr⟩ := (hW.X k).1 h4
        obtain ⟨R, hR⟩ := hpres r hr
        exact (hi.own r R hR k hbr).2.2.2
      · rw [hW.n] at h4; exact .inr (Nat.le_trans hi.grow h4)
    · intro r R hl k hk hkF
      simp only [behindB] at hl
      rw [look_appR] at hl
      cases hq : look (broots c.xs b) r with
      | some R' =>
        simp only [pickF, hq] at hkF
        obtain ⟨_, _, R0, g1, _⟩ := broots_ok hb hq
        exact hap r R0 g1 k hk hkF
      | none =>
        rw [hq] at hl
        simp only [pickF, hq] at hkF
        simp only [look_delAll] at hl
        by_cases htk : r ∈ takenNames σ c.xs
        · simp [htk] at hl
        · simp only [htk, if_false] at hl
          rcases (hown k hk).2.2.2 with h4 | h4
          · obtain ⟨r', hr', hbr⟩ := (hW.X k).1 h4
            obtain ⟨R', hR'⟩ := hpres r' hr'
            exact hi.disj r r' R R' (by rintro rfl; exact htk hr') hl hR' k hkF hbr
          · rw [hW.n] at h4
            have := (hi.own r R hl k hkF).2.2.1
            omega

end
end Go.Proofs.Ytnffdeokhcojfaa.E

namespace Go.Proofs.Ytnffdeokhcojfaa.E
open Go
set_option linter.unusedSimpArgs false
set_option linter.unusedVariables false

theorem wp_loop_ind {P : Program} {c : Code} {A : Type} (S : Nat → A → Act → World → Prop) (Q : Exit → Act → World → Prop)
    (round : ∀ n x a w, S n x a w → c.wp P (Exit.then (fun a' w' => ∃ m y, m < n ∧ S m y a' w') Q) a w) : ∀ n x a w, S n x a w → (Code.loop c).wp P Q a w := by
  intro n x a w h b k cs
  have key : ∀ n x a w, S n x a w → ∃ e a' w', Q e a' w' ∧ Arrives P (lone (b.at a (.code c :: .inLoop c :: k)) cs w) b k cs e a' w' := by
    intro n
    induction n using Nat.strongRecOn with
    | _ n ih =>
      intro x a w h
      obtain ⟨e, a1, w1, hq, harr⟩ := round n x a w h b (.inLoop c :: k) cs
      cases e with
      | normal =>
        obtain ⟨m, y, hlt, h1⟩ := hq
        obtain ⟨e2, a2, w2, hq2, harr2⟩ := ih m hlt y a1 w1 h1
        exact ⟨e2, a2, w2, hq2, .of_steps (Steps.trans harr (.one step_inLoop)) harr2⟩
      | exit id => exact ⟨_, a1, w1, hq, .pass (x := .inLoop c) rfl (fun _ _ => .inl (by simp)) harr⟩
      | goto l => exact ⟨_, a1, w1, hq, .pass (x := .inLoop c) rfl (fun _ _ => .inl (by simp)) harr⟩
      | ret => exact ⟨_, a1, w1, hq, .pass (x := .inLoop c) rfl (fun _ _ => .inl (by simp)) harr⟩
      | panic ch => exact ⟨_, a1, w1, hq, .pass (x := .inLoop c) rfl (fun _ _ => .inl (by simp)) harr⟩
      | outgrown => exact ⟨_, a1, w1, hq, .pass (x := .inLoop c) rfl (fun _ _ => .inl (by simp)) harr⟩
  obtain ⟨e, a', w', hq, harr⟩ := key n x a w h
  exact ⟨e, a', w', hq, .of_steps (.one step_loop) harr⟩

def SatE (C : Ctx) (rs : List Ty) (rv : List ResultVar) : Ex (denL rs) → St → World → Act → Prop
  | .n, σ, w, a => Sat C σ w a
  | .e _, σ, w, a => Sat C σ w a
  | .r q, σ, w, a => RetS C rs rv q σ w a

def exitOf {Q : Type} : Ex Q → Exit
  | .n => .normal
  | .e j => .exit j
  | .r _ => .ret

def Keep (asg : List Nat) (a a' : Act) : Prop := ∀ i, natMem i asg = false → a'.tmps.getD i undef = a.tmps.getD i undef

theorem Keep.rfl {asg : List Nat} {a : Act} : Keep asg a a := fun _ _ => Eq.refl _
theorem Keep.trans {asg : List Nat} {a b c : Act} (h : Keep asg a b) (h' : Keep asg b c) : Keep asg a c := fun i hi => (h' i hi).trans (h i hi)
theorem Keep.left {x y : List Nat} {a b : Act} (h : Keep x a b) : Keep (x ++ y) a b := fun i hi => h i (by
  cases hq : natMem i x with
  | false => rfl
  | true => rw [natMem_iff.2 (List.mem_append.2 (.inl (natMem_iff.1 hq)))] at hi; cases hi)
theorem Keep.right {x y : List Nat} {a b : Act} (h : Keep y a b) : Keep (x ++ y) a b := fun i hi => h i (by
  cases hq : natMem i y with
  | false => rfl
  | true => rw [natMem_iff.2 (List.mem_append.2 (.inr (natMem_iff.1 hq)))] at hi; cases hi)

section
variable {rs : List Ty} {rv : List ResultVar} {P : Program} {T : Tab}

/-- what a loop, a cut comes to, at the ends of its code -/
def OutL (C : Ctx) (rs : List Ty) (rv : List ResultVar) (n : Nat) (c : Cut) (kv : denL (ktys c.ks)) (r : LO (denL rs) (denL (xtys c.xs)) (denL (btys c.xs))) (e : Exit) (a : Act) (w : World) : Prop :=
  match r with
  | .brk b => e = .normal ∧ Sat C (fill n c.ks kv c.xs b) w a
  | .ext j b => e = .exit j ∧ Sat C (fill n c.ks kv c.xs b) w a
  | .ret q b => e = .ret ∧ ∃ σ', RetS C rs rv q σ' w a ∧ outB σ' c = some b

theorem cutK_ok {R : Type} {σ : St} {asg : List Nat} {c : Cut} {run : denL (ktys c.ks) → denL (xtys c.xs) → Option (LO (denL rs) (denL (xtys c.xs)) (denL (btys c.xs)))} {K : Ex (denL rs) → St → Option R} {res : R} {C : Ctx} {w : World} {a : Act} {code : Code} {Q : Exit → Act → World → Prop}
    (hs : Sat C σ w a) (he : cutK σ asg c run K = some res)
    (hrun : ∀ (C' : Ctx) kv xv r, C'.P = C.P → C'.T = C.T → cutOk σ asg c = true → run kv xv = some r → KF C' a.tmps c.ks kv → Sat C' (fill σ.n c.ks kv c.xs xv) w a →
      ∀ Q', (∀ e a' w', Keep asg a a' → OutL C' rs rv σ.n c kv r e a' w' → Q' e a' w') → code.wp C.P Q' a w)
    (hQ : ∀ e σ' a' w', K e σ' = some res → SatE C rs rv e σ' w' a' → Keep asg a a' → Q (exitOf e) a' w') : code.wp C.P Q a w := by
  obtain ⟨hd, I, β, F, hi⟩ := hs
  unfold cutK at he
  cases hc : cutOk σ asg c with
  | false => simp [hc] at he
  | true =>
    simp only [hc] at he
    split at he
    · rename_i kv xv hk hx
      cases hr : run kv xv with
      | none => rw [hr] at he; simp [bdL] at he
      | some r =>
        rw [hr] at he
        obtain ⟨C', h1, h2, h3, h4, h5, h6⟩ := enter hi hc hk hx
        refine hrun C' kv xv r h1 h2 hc hr h5 ⟨hd, _, _, _, h6⟩ Q fun e a' w' hkp hO => ?_
        cases r with
        | brk b =>
          obtain ⟨rfl, hd', I1, β1, F1, h7⟩ := hO
          obtain ⟨β2, F2, h8⟩ := leave hi hc hx (extractK_pin hk) h3 h4 h7 hkp
          exact hQ .n _ a' w' he ⟨hd', I1, β2, F2, h8⟩ hkp
        | ext j b =>
          obtain ⟨rfl, hd', I1, β1, F1, h7⟩ := hO
          obtain ⟨β2, F2, h8⟩ := leave hi hc hx (extractK_pin hk) h3 h4 h7 hkp
          exact hQ (.e j) _ a' w' he ⟨hd', I1, β2, F2, h8⟩ hkp
        | ret q b =>
          obtain ⟨rfl, σ', h7, h8⟩ := hO
          exact hQ (.r q) _ a' w' he (leaveB hi hc hx (extractK_pin hk) kv h3 h4 h7 h8 hkp) hkp
    · simp at he

theorem KF.keep {C : Ctx} {asg : List Nat} {a a' : Act} (hk : Keep asg a a') : ∀ {ks : List KV} {kv : denL (ktys ks)}, (∀ s ∈ kslotsOf ks, natMem s asg = false) → KF C a.tmps ks kv → KF C a'.tmps ks kv
  | [], _, _, _ => trivial
  | .v s _ _ :: l, (_, r), hn, ⟨h1, h2⟩ => ⟨by rw [hk s (hn s (by simp [kslotsOf]))]; exact h1, KF.keep (ks := l) hk (fun s hs => hn s (by simp [kslotsOf, hs])) h2⟩
  | .q s _ _ :: l, (_, r), hn, ⟨h1, h2⟩ => ⟨by rw [hk s (hn s (by simp [kslotsOf]))]; exact h1, KF.keep (ks := l) hk (fun s hs => hn s (by simp [kslotsOf, hs])) h2⟩
  | .p s _ :: l, (_, r), hn, h => KF.keep (ks := l) hk (fun s hs => hn s (by simp [kslotsOf, hs])) h
  | .s s _ :: l, (_, r), hn, h => KF.keep (ks := l) hk (fun s hs => hn s (by simp [kslotsOf, hs])) h

/-- from the end of a round to the head of the next -/
theorem refill {C : Ctx} {σ0 σ : St} {asg : List Nat} {c : Cut} {kv : denL (ktys c.ks)} {b : denL (xtys c.xs)} {w : World} {a0 a : Act} (hc : cutOk σ0 asg c = true) (hs : Sat C σ w a) {n : Nat} (hx : outX n σ c = some b) (hk : KF C a0.tmps c.ks kv) (hkp : Keep asg a0 a) :
    Sat C (fill n c.ks kv c.xs b) w a := by
  obtain ⟨hd, I, β, F, hi⟩ := hs
  simp only [cutOk, Bool.and_eq_true] at hc
  obtain ⟨⟨⟨⟨⟨⟨⟨c1, c2⟩, c3⟩, c4⟩, c5⟩, c6⟩, c7⟩, c8⟩ := hc
  unfold outX at hx
  cases hp : (apart (takenNames σ c.xs) [] && pinOk σ c.ks && Nat.beq σ.n n) with
  | false => simp [hp] at hx
  | true =>
    simp only [hp] at hx
    simp only [Bool.and_eq_true] at hp
    have hnk : ∀ s ∈ kslotsOf c.ks, natMem s asg = false := by
      intro s hs
      cases hq : natMem s asg with
      | false => rfl
      | true => exact ((apart_iff c4).2 s hs (natMem_iff.1 hq)).elim
    have hS : Src C I β F σ w a.tmps c.xs := ⟨fun r _ R hl => ⟨hi.roots r R hl, hi.nodup r R hl, hi.own r R hl⟩, fun r _ r' _ R R' hne h h' => hi.disj r r' R R' hne h h', hi.slots⟩
    exact ⟨hd, I, _, _, fill_inv hi.room hS hx (apart_iff c2).1 (apart_iff hp.1.1).1 hp.1.2 (hk.keep hkp hnk) c6 c7 (by rw [hi.size]; exact Nat.eq_of_beq_eq_true hp.2)⟩

end
end Go.Proofs.Ytnffdeokhcojfaa.E

namespace Go.Proofs.Ytnffdeokhcojfaa.E
open Go
set_option linter.unusedSimpArgs false
set_option linter.unusedVariables false

theorem asB_ok {C : Ctx} {I : Set'} {β : Nat → Value} {ρ : List (Nat × Root)} {h : Hp} {sv : SV} {v : Value} {g : Bool} (hs : SVR h C.L I β ρ sv v) (he : asB sv = some g) : v = .bool g := by
  unfold asB at he
  split at he
  · simp at he; subst he; exact of_bool hs
  · cases he

theorem not_mem_of {i : Nat} {l : List Nat} (h : natMem i l = false) : i ∉ l := fun hm => by rw [natMem_iff.2 hm] at h; cases h

theorem loop_ok {P : Program} {rs : List Ty} {rv : List ResultVar} {C : Ctx} {σ0 : St} {asg : List Nat} {c : Cut} {id n : Nat} {kv : denL (ktys c.ks)} {body : St → (Ex (denL rs) → St → Option (LO (denL rs) (denL (xtys c.xs)) (denL (btys c.xs)))) → Option (LO (denL rs) (denL (xtys c.xs)) (denL (btys c.xs)))} {code : Code} {a0 : Act}
    (hc : cutOk σ0 asg c = true) (hk : KF C a0.tmps c.ks kv)
    (hbody : ∀ {σ K res w a Q}, body σ K = some res → Sat C σ w a → (∀ e σ' a' w', K e σ' = some res → SatE C rs rv e σ' w' a' → Keep asg a a' → Q (exitOf e) a' w') → code.wp P Q a w) {r : LO (denL rs) (denL (xtys c.xs)) (denL (btys c.xs))} {Q : Exit → Act → World → Prop}
    (hQ : ∀ e a' w', Keep asg a0 a' → OutL C rs rv n c kv r e a' w' → Q e a' w') :
    ∀ m xv a w, loopF true id n c kv body m xv = some r → Keep asg a0 a → Sat C (fill n c.ks kv c.xs xv) w a → (Code.loop code).wp P (Exit.inBlock id Q) a w := by
  intro m xv a w he hkp hs
  refine wp_loop_ind (A := denL (xtys c.xs)) (fun m xv a w => loopF true id n c kv body m xv = some r ∧ Keep asg a0 a ∧ Sat C (fill n c.ks kv c.xs xv) w a) _ ?_ m xv a w ⟨he, hkp, hs⟩
  rintro m xv a w ⟨he, hkp, hs⟩
  cases m with
  | zero => simp [loopF] at he
  | succ m =>
    simp only [loopF] at he
    refine hbody he hs fun e σ' a' w' h1 h2 h3 => ?_
    have hkp' := hkp.trans h3
    cases e with
    | n =>
      simp only at h1
      cases hx : outX n σ' c with
      | none => simp [hx] at h1
      | some b =>
        simp only [hx] at h1
        exact ⟨m, b, Nat.lt_succ_self m, h1, hkp', refill hc h2 hx hk hkp'⟩
    | e j =>
      simp only at h1
      cases hx : outX n σ' c with
      | none => simp [hx] at h1
      | some b =>
        simp only [hx] at h1
        have hf := refill hc h2 hx hk hkp'
        show Exit.inBlock id Q (.exit j) a' w'
        cases hj : Nat.beq j id with
        | true =>
          rw [hj] at h1
          simp only [br, cond_true, cond_false, Option.some.injEq] at h1
          subst h1
          obtain rfl := Nat.eq_of_beq_eq_true hj
          simp only [Exit.inBlock, if_true]
          exact hQ _ _ _ hkp' ⟨rfl, hf⟩
        | false =>
          rw [hj] at h1
          simp only [br, cond_true, cond_false, Option.some.injEq] at h1
          subst h1
          have hne : j ≠ id := by rintro rfl; simp at hj
          simp only [Exit.inBlock, if_neg hne]
          exact hQ _ _ _ hkp' ⟨rfl, hf⟩
    | r q =>
      simp only at h1
      cases hx : outB σ' c with
      | none => simp [hx] at h1
      | some b =>
        simp only [hx, Option.some.injEq] at h1
        subst h1
        exact hQ _ _ _ hkp' ⟨rfl, σ', h2, hx⟩

theorem once_ok {P : Program} {rs : List Ty} {rv : List ResultVar} {C : Ctx} {σ0 : St} {asg : List Nat} {c : Cut} {id n m : Nat} {kv : denL (ktys c.ks)} {body : St → (Ex (denL rs) → St → Option (LO (denL rs) (denL (xtys c.xs)) (denL (btys c.xs)))) → Option (LO (denL rs) (denL (xtys c.xs)) (denL (btys c.xs)))} {code : Code} {a0 : Act}
    (hc : cutOk σ0 asg c = true) (hk : KF C a0.tmps c.ks kv)
    (hbody : ∀ {σ K res w a Q}, body σ K = some res → Sat C σ w a → (∀ e σ' a' w', K e σ' = some res → SatE C rs rv e σ' w' a' → Keep asg a a' → Q (exitOf e) a' w') → code.wp P Q a w) {r : LO (denL rs) (denL (xtys c.xs)) (denL (btys c.xs))} {Q : Exit → Act → World → Prop}
    (hQ : ∀ e a' w', Keep asg a0 a' → OutL C rs rv n c kv r e a' w' → Q e a' w') {xv : denL (xtys c.xs)} {w : World}
    (he : loopF false id n c kv body m xv = some r) (hs : Sat C (fill n c.ks kv c.xs xv) w a0) : code.wp P (Exit.inBlock id Q) a0 w := by
  cases m with
  | zero => simp [loopF] at he
  | succ m =>
    simp only [loopF] at he
    refine hbody he hs fun e σ' a' w' h1 h2 h3 => ?_
    cases e with
    | n =>
      simp only at h1
      cases hx : outX n σ' c with
      | none => simp [hx] at h1
      | some b =>
        simp only [hx, Option.some.injEq] at h1
        subst h1
        exact hQ _ _ _ h3 ⟨rfl, refill hc h2 hx hk h3⟩
    | e j =>
      simp only at h1
      cases hx : outX n σ' c with
      | none => simp [hx] at h1
      | some b =>
        simp only [hx] at h1
        have hf := refill hc h2 hx hk h3
        show Exit.inBlock id Q (.exit j) a' w'
        cases hj : Nat.beq j id with
        | true =>
          rw [hj] at h1
          simp only [br, cond_true, cond_false, Option.some.injEq] at h1
          subst h1
          obtain rfl := Nat.eq_of_beq_eq_true hj
          simp only [Exit.inBlock, if_true]
          exact hQ _ _ _ h3 ⟨rfl, hf⟩
        | false =>
          rw [hj] at h1
          simp only [br, cond_true, cond_false, Option.some.injEq] at h1
          subst h1
          have hne : j ≠ id := by rintro rfl; simp at hj
          simp only [Exit.inBlock, if_neg hne]
          exact hQ _ _ _ h3 ⟨rfl, hf⟩
    | r q =>
      simp only at h1
      cases hx : outB σ' c with
      | none => simp [hx] at h1
      | some b =>
        simp only [hx, Option.some.injEq] at h1
        subst h1
        exact hQ _ _ _ h3 ⟨rfl, σ', h2, hx⟩

end Go.Proofs.Ytnffdeokhcojfaa.E

namespace Go.Proofs.Ytnffdeokhcojfaa.E
open Go
set_option linter.unusedSimpArgs false
set_option linter.unusedVariables false

theorem region_ok {R : Type} {P : Program} {E' : Env} {fn : E'.Fn} (hmx : P.follows .mixedOrders = true) (hfn : FnOk P E' fn) {rs : List Ty} {rv : List ResultVar} {id : Nat} {ops : Array Oper} {draw : Bool} {σ : St} {K : Ex (denL rs) → St → Option R} {res : R}
    (he : (match draw with | false => runOps E' fn ops.toList ops.toList σ (K .n) | true => runDraw E' fn ops.toList σ (K .n)) = some res) {C : Ctx} (hP : C.P = P) (hT : C.T = E'.T) {w : World} {a : Act} {Q : Exit → Act → World → Prop} (hs : Sat C σ w a)
    (hQ : ∀ e σ' a' w', K e σ' = some res → SatE C rs rv e σ' w' a' → Keep (dsts (.region id ops draw)) a a' → Q (exitOf e) a' w') : (Code.region id ops draw).wp P Q a w := by
  subst hP
  have hk : ∀ a' : Act, (∀ i, i ∉ dstL ops.toList → a'.tmps.getD i undef = a.tmps.getD i undef) → Keep (dsts (.region id ops draw)) a a' := fun a' h i hi => h i (not_mem_of hi)
  cases draw with
  | false =>
    refine wp_region ?_
    have := runOps_ok (Q := Q) hT.symm hfn ops a ops.toList 0 rfl hs (fun _ _ => rfl) he fun σ' a' w' h1 h2 h3 => hQ .n σ' a' w' h1 h2 (hk a' h3)
    rwa [← List.range_eq_range', Array.length_toList] at this
  | true => exact runDraw_ok hT.symm hfn hmx hs he fun σ' a' w' h1 h2 h3 => hQ .n σ' a' w' h1 h2 (hk a' h3)

theorem block_ok {R : Type} {P : Program} {E' : Env} {fn : E'.Fn} {f : FuncId} {rv : List ResultVar} {k id : Nat} {c : Code}
    (ih : ∀ {R : Type} {σ : St} {K : Ex (denL (E'.sig f).rs) → St → Option R} {res : R}, ev E' fn f rv k c R σ K = some res → ∀ {C : Ctx}, C.P = P → C.T = E'.T → ∀ {w a Q}, Sat C σ w a →
      (∀ e σ' a' w', K e σ' = some res → SatE C (E'.sig f).rs rv e σ' w' a' → Keep (dsts c) a a' → Q (exitOf e) a' w') → c.wp P Q a w)
    {σ : St} {K : Ex (denL (E'.sig f).rs) → St → Option R} {res : R}
    (he : (match E'.ann f id with
      | some cut => cutK σ (dsts c) cut (fun kv xv => loopF false id σ.n cut kv (fun σ K => ev E' fn f rv k c _ σ K) 1 xv) K
      | none => ev E' fn f rv k c R σ fun e σ' => match e with
        | .e j => br (Nat.beq j id) (K .n σ') (K (.e j) σ')
        | e => K e σ') = some res) {C : Ctx} (hP : C.P = P) (hT : C.T = E'.T) {w : World} {a : Act} {Q : Exit → Act → World → Prop} (hs : Sat C σ w a)
    (hQ : ∀ e σ' a' w', K e σ' = some res → SatE C (E'.sig f).rs rv e σ' w' a' → Keep (dsts c) a a' → Q (exitOf e) a' w') : (Code.block id c).wp P Q a w := by
  cases ha : E'.ann f id with
  | some cut =>
    simp only [ha] at he
    have := cutK_ok (code := .block id c) (Q := Q) hs he (fun C' kv xv r h1 h2 h3 h4 h5 h6 Q' hQ' => by
      rw [hP]
      refine wp_block ?_
      exact once_ok (rs := (E'.sig f).rs) (rv := rv) h3 h5 (fun he hs hq => ih he (h1.trans hP) (h2.trans hT) hs hq) hQ' h4 h6) hQ
    rwa [hP] at this
  | none =>
    simp only [ha] at he
    refine wp_block (ih he hP hT hs fun e σ' a' w' h1 h2 h3 => ?_)
    cases e with
    | n => exact hQ .n σ' a' w' h1 h2 h3
    | r q => exact hQ (.r q) σ' a' w' h1 h2 h3
    | e j =>
      simp only at h1
      show Exit.inBlock id Q (.exit j) a' w'
      cases hj : Nat.beq j id with
      | true =>
        rw [hj] at h1
        obtain rfl := Nat.eq_of_beq_eq_true hj
        simp only [Exit.inBlock, if_true]
        exact hQ .n σ' a' w' h1 h2 h3
      | false =>
        rw [hj] at h1
        have hne : j ≠ id := by rintro rfl; simp at hj
        simp only [Exit.inBlock, if_neg hne]
        exact hQ (.e j) σ' a' w' h1 h2 h3

theorem ev_ok {P : Program} {E' : Env} {fn : E'.Fn} (hmx : P.follows .mixedOrders = true) (hfn : FnOk P E' fn) (f : FuncId) (rv : List ResultVar) (k : Nat) : ∀ (c : Code) {R : Type} {σ : St} {K : Ex (denL (E'.sig f).rs) → St → Option R} {res : R}, ev E' fn f rv k c R σ K = some res → ∀ {C : Ctx}, C.P = P → C.T = E'.T → ∀ {w a Q}, Sat C σ w a →
      (∀ e σ' a' w', K e σ' = some res → SatE C (E'.sig f).rs rv e σ' w' a' → Keep (dsts c) a a' → Q (exitOf e) a' w') → c.wp P Q a w
  | .skip, R, σ, K, res, he, C, hP, hT, w, a, Q, hs, hQ => wp_skip (hQ .n σ a w he hs Keep.rfl)
  | .region id ops draw, R, σ, K, res, he, C, hP, hT, w, a, Q, hs, hQ => region_ok hmx hfn he hP hT hs hQ
  | .seq x y, R, σ, K, res, he, C, hP, hT, w, a, Q, hs, hQ => by
    refine wp_seq (ev_ok hmx hfn f rv k x he hP hT hs fun e σ' a' w' h1 h2 h3 => ?_)
    cases e with
    | n => exact ev_ok hmx hfn f rv k y h1 hP hT h2 fun e σ2 a2 w2 g1 g2 g3 => hQ e σ2 a2 w2 g1 g2 (h3.left.trans g3.right)
    | e j => exact hQ (.e j) σ' a' w' h1 h2 h3.left
    | r q => exact hQ (.r q) σ' a' w' h1 h2 h3.left
  | .cond c x y, R, σ, K, res, he, C, hP, hT, w, a, Q, hs, hQ => by
    simp only [ev] at he
    cases hg : asB (σ.arg none c) with
    | none => simp [hg] at he
    | some g =>
      simp only [hg] at he
      have hv : a.eval c = .bool g := by
        obtain ⟨hd, I, β, F, hi⟩ := hs
        rw [act_eval]
        exact asB_ok (arg_ok hi (fun d w h => by cases h) c) hg
      refine wp_cond hv ?_
      rcases br_some he with ⟨rfl, he⟩ | ⟨rfl, he⟩
      · exact ev_ok hmx hfn f rv k x he hP hT hs fun e σ' a' w' h1 h2 h3 => hQ e σ' a' w' h1 h2 h3.left
      · exact ev_ok hmx hfn f rv k y he hP hT hs fun e σ' a' w' h1 h2 h3 => hQ e σ' a' w' h1 h2 h3.right
  | .block id (.loop c), R, σ, K, res, he, C, hP, hT, w, a, Q, hs, hQ => by
    simp only [ev] at he
    cases ha : E'.ann f id with
    | none => simp [ha] at he
    | some cut =>
      simp only [ha] at he
      have := cutK_ok (code := .block id (.loop c)) (Q := Q) hs he (fun C' kv xv r h1 h2 h3 h4 h5 h6 Q' hQ' => by
        rw [hP]
        refine wp_block ?_
        exact loop_ok (rs := (E'.sig f).rs) (rv := rv) h3 h5 (fun he hs hq => ev_ok hmx hfn f rv k c he (h1.trans hP) (h2.trans hT) hs hq) hQ' k xv a w h4 Keep.rfl h6) hQ
      rwa [hP] at this
  | .block id (.skip), R, σ, K, res, he, C, hP, hT, w, a, Q, hs, hQ => block_ok (c := .skip) (ev_ok hmx hfn f rv k _) he hP hT hs hQ
  | .block id (.region x y z), R, σ, K, res, he, C, hP, hT, w, a, Q, hs, hQ => block_ok (c := .region x y z) (ev_ok hmx hfn f rv k _) he hP hT hs hQ
  | .block id (.seq x y), R, σ, K, res, he, C, hP, hT, w, a, Q, hs, hQ => block_ok (c := .seq x y) (ev_ok hmx hfn f rv k _) he hP hT hs hQ
  | .block id (.cond x y z), R, σ, K, res, he, C, hP, hT, w, a, Q, hs, hQ => block_ok (c := .cond x y z) (ev_ok hmx hfn f rv k _) he hP hT hs hQ
  | .block id (.block x y), R, σ, K, res, he, C, hP, hT, w, a, Q, hs, hQ => block_ok (c := .block x y) (ev_ok hmx hfn f rv k _) he hP hT hs hQ
  | .block id (.exit x), R, σ, K, res, he, C, hP, hT, w, a, Q, hs, hQ => block_ok (c := .exit x) (ev_ok hmx hfn f rv k _) he hP hT hs hQ
  | .block id (.ret), R, σ, K, res, he, C, hP, hT, w, a, Q, hs, hQ => block_ok (c := .ret) (ev_ok hmx hfn f rv k _) he hP hT hs hQ
  | .block id (.rangeFunc x y z u), R, σ, K, res, he, C, hP, hT, w, a, Q, hs, hQ => block_ok (c := .rangeFunc x y z u) (ev_ok hmx hfn f rv k _) he hP hT hs hQ
  | .block id (.scope x), R, σ, K, res, he, C, hP, hT, w, a, Q, hs, hQ => block_ok (c := .scope x) (ev_ok hmx hfn f rv k _) he hP hT hs hQ
  | .block id (.label x), R, σ, K, res, he, C, hP, hT, w, a, Q, hs, hQ => block_ok (c := .label x) (ev_ok hmx hfn f rv k _) he hP hT hs hQ
  | .block id (.goto x), R, σ, K, res, he, C, hP, hT, w, a, Q, hs, hQ => block_ok (c := .goto x) (ev_ok hmx hfn f rv k _) he hP hT hs hQ
  | .block id (.refuse x), R, σ, K, res, he, C, hP, hT, w, a, Q, hs, hQ => block_ok (c := .refuse x) (ev_ok hmx hfn f rv k _) he hP hT hs hQ
  | .refuse _, R, σ, K, res, he, C, hP, hT, w, a, Q, hs, hQ => by simp [ev] at he
  | .rangeFunc _ _ _ _, R, σ, K, res, he, C, hP, hT, w, a, Q, hs, hQ => by simp [ev] at he
  | .scope _, R, σ, K, res, he, C, hP, hT, w, a, Q, hs, hQ => by simp [ev] at he
  | .label _, R, σ, K, res, he, C, hP, hT, w, a, Q, hs, hQ => by simp [ev] at he
  | .goto _, R, σ, K, res, he, C, hP, hT, w, a, Q, hs, hQ => by simp [ev] at he
  | .exit id, R, σ, K, res, he, C, hP, hT, w, a, Q, hs, hQ => wp_exit (hQ (.e id) σ a w he hs Keep.rfl)
  | .ret, R, σ, K, res, he, C, hP, hT, w, a, Q, hs, hQ => by
    simp only [ev] at he
    rw [← hT] at he
    cases ht : takesV C.T (E'.sig f).rs rv σ with
    | none => simp [ht] at he
    | some p =>
      obtain ⟨q, σ'⟩ := p
      simp only [ht] at he
      exact wp_ret (hQ (.r q) σ' a w he (ret_ok hs ht) Keep.rfl)
  | .loop _, R, σ, K, res, he, C, hP, hT, w, a, Q, hs, hQ => by simp [ev] at he

end Go.Proofs.Ytnffdeokhcojfaa.E

namespace Go.Proofs.Ytnffdeokhcojfaa.E
open Go
set_option linter.unusedSimpArgs false
set_option linter.unusedVariables false

section
variable {h : Hp} {L I : Set'}

theorem mkv_svr {len : Bool} {t : Ty} {a : den t} {v : Value} {β : Nat → Value} {ρ : List (Nat × Root)} (hr : ∃ cs, Rep h (Sx L I len) true t a cs [] ∧ v = wrapV t cs) : SVR h L I β ρ (mkv len t a) v := by
  obtain ⟨cs, h1, rfl⟩ := hr
  exact mkv_ok h1

theorem initV_name : ∀ (ps : List (Bool × Ty)) (a : denL (ps.map (·.2))) (k : Nat) (r : Nat) (R : Root), look (initV ps a k).2 r = some R → k ≤ r
  | [], _, k, r, R, hl => by simp [initV, look] at hl
  | (true, τ) :: ps, (a, x), k, r, R, hl => by
    have hl : look (initV ps x (k + 1)).2 r = some R := by
      simp only [initV] at hl
      split at hl <;> exact hl
    have := initV_name ps x (k + 1) r R hl
    omega
  | (false, τ) :: ps, (a, x), k, r, R, hl => by
    by_cases e : r = k
    · omega
    · have hl : look (initV ps x (k + 1)).2 r = some R := by
        simp only [initV] at hl
        split at hl
        · rwa [look_cons_ne e] at hl
        · rwa [look_cons_ne e] at hl
        · exact hl
      have := initV_name ps x (k + 1) r R hl
      omega

theorem argsR_len : ∀ (ps : List (Bool × Ty)) {a : denL (ps.map (·.2))} {vs : List Value} {Xs : List (List Nat)}, ArgsR h L I ps a vs Xs → vs.length = ps.length ∧ Xs.length = ps.length
  | [], _, [], [], _ => ⟨rfl, rfl⟩
  | [], _, _ :: _, _, hr | [], _, [], _ :: _, hr => hr.elim
  | _ :: _, _, [], _, hr | _ :: _, _, _ :: _, [], hr => hr.elim
  | (_, _) :: ps, (_, _), v :: vs, X :: Xs, ⟨_, hr⟩ => by
    obtain ⟨h1, h2⟩ := argsR_len ps hr
    simp [h1, h2]

end
end Go.Proofs.Ytnffdeokhcojfaa.E

namespace Go.Proofs.Ytnffdeokhcojfaa.E
open Go
set_option linter.unusedSimpArgs false
set_option linter.unusedVariables false

section
variable {h : Hp} {L I : Set'}

/-- the state at a function's start -/
def Start (h : Hp) (L I : Set') (β : Nat → Value) (F : Nat → List Nat) (k : Nat) (vs : List Value) (l : List (Nat × SV)) (ρ : List (Nat × Root)) : Prop :=
  (∀ i sv, (i, sv) ∈ l → k ≤ i ∧ SVR h L I β ρ sv (vs.getD (i - k) undef)) ∧ ∀ r R, look ρ r = some R → RootR h L I (β r) R (F r)

theorem Start.cons {β : Nat → Value} {F : Nat → List Nat} {k : Nat} {v : Value} {vs : List Value} {l : List (Nat × SV)} {ρ ρ' : List (Nat × Root)} {sv : SV} (hS : Start h L I β F (k + 1) vs l ρ)
    (hsv : SVR h L I β ρ' sv v) (hlook : ∀ r R, look ρ r = some R → look ρ' r = some R) (hr : ∀ r R, look ρ' r = some R → look ρ r = some R ∨ RootR h L I (β r) R (F r)) : Start h L I β F k (v :: vs) ((k, sv) :: l) ρ' := by
  constructor
  · intro i s hm
    rcases List.mem_cons.1 hm with hm | hm
    · simp only [Prod.mk.injEq] at hm
      obtain ⟨rfl, rfl⟩ := hm
      exact ⟨Nat.le_refl _, by simpa using hsv⟩
    · obtain ⟨h1, h2⟩ := hS.1 i s hm
      refine ⟨by omega, ?_⟩
      have e : i - k = (i - (k + 1)) + 1 := by omega
      rw [e, List.getD_cons_succ]
      exact SVR.mono (fun b hb => ⟨hb, rfl⟩) (fun _ _ => rfl) (fun r R _ hl => ⟨R, hlook r R hl, Root.like.refl R, rfl⟩) h2
  · intro r R hl
    rcases hr r R hl with h1 | h1
    · exact hS.2 r R h1
    · exact h1

theorem initV_ok : ∀ (ps : List (Bool × Ty)) {a : denL (ps.map (·.2))} {vs : List Value} {Xs : List (List Nat)} {k : Nat} {β : Nat → Value} {F : Nat → List Nat}, ArgsR h L I ps a vs Xs → (∀ j, β (k + j) = vs.getD j undef) → (∀ j, F (k + j) = Xs.getD j []) →
    Start h L I β F k vs (initV ps a k).1 (initV ps a k).2
  | [], _, [], [], k, β, F, _, _, _ => ⟨by intro i sv hm; simp [initV] at hm, by intro r R hl; simp [initV, look] at hl⟩
  | [], _, _ :: _, _, _, _, _, hr, _, _ | [], _, [], _ :: _, _, _, _, hr, _, _ => hr.elim
  | _ :: _, _, [], _, _, _, _, hr, _, _ | _ :: _, _, _ :: _, [], _, _, _, hr, _, _ => hr.elim
  | (len, τ) :: ps, (a, x), v :: vs, X :: Xs, k, β, F, ⟨⟨cs, hr, hv⟩, hrs⟩, hβ, hF => by
    subst hv
    have ih := initV_ok ps hrs (k := k + 1) (β := β) (F := F) (fun j => by have := hβ (j + 1); rw [show k + 1 + j = k + (j + 1) by omega, this]; rfl) (fun j => by have := hF (j + 1); rw [show k + 1 + j = k + (j + 1) by omega, this]; rfl)
    have hβ0 : β k = wrapV τ cs := by have := hβ 0; simpa using this
    have hF0 : F k = X := by have := hF 0; simpa using this
    have hlk : ∀ (R' : Root) r R, look (initV ps x (k + 1)).2 r = some R → look ((k, R') :: (initV ps x (k + 1)).2) r = some R := by
      intro R' r R hl
      have := initV_name ps x (k + 1) r R hl
      rw [look_cons_ne (by omega)]; exact hl
    have hlk2 : ∀ (R' : Root), RootR h L I (β k) R' (F k) → ∀ r R, look ((k, R') :: (initV ps x (k + 1)).2) r = some R → look (initV ps x (k + 1)).2 r = some R ∨ RootR h L I (β r) R (F r) := by
      intro R' hR r R hl
      by_cases e : r = k
      · subst e; rw [look_cons_same] at hl; obtain rfl := Option.some.inj hl; exact .inr hR
      · rw [look_cons_ne e] at hl; exact .inl hl
    cases len with
    | true =>
      have hX := Rep.lentX hr
      subst hX
      cases τ with
      | ref o t =>
        cases o with
        | false =>
          obtain ⟨v0, rfl⟩ : ∃ v0, cs = [v0] := by have := hr.len; simp [Ty.size] at this; exact List.length_eq_one_iff.1 this
          exact ih.cons (show Rep h (Sx L I true) true (.ref false t) a [v0] [] from hr) (fun _ _ h => h) (fun _ _ h => .inl h)
        | true => exact ih.cons (mkv_svr ⟨cs, hr, rfl⟩) (fun _ _ h => h) (fun _ _ h => .inl h)
      | _ => exact ih.cons (mkv_svr ⟨cs, hr, rfl⟩) (fun _ _ h => h) (fun _ _ h => .inl h)
    | false =>
      have flatC : SVR h L I β (initV ps x (k + 1)).2 (match τ.flat with | true => mkv false τ a | false => .x) (wrapV τ cs) := by
        cases hf : τ.flat with
        | false => exact trivial
        | true => exact mkv_svr ⟨cs, (Rep.flat hf hr).2, rfl⟩
      cases τ with
      | ref o t =>
        cases o with
        | true =>
          obtain ⟨v0, rfl⟩ : ∃ v0, cs = [v0] := by have := hr.len; simp [Ty.size] at this; exact List.length_eq_one_iff.1 this
          have hR : RootR h L I (β k) (.box false t a) (F k) := by rw [hβ0, hF0]; exact hr
          refine ih.cons (ρ' := (k, .box false t a) :: (initV ps x (k + 1)).2) ⟨.box false t a, 0, t, look_cons_same, rfl, trivial, ?_⟩ (hlk _) (hlk2 _ hR)
          have := box_ptr hR
          rw [hβ0] at this ⊢
          exact this.symm
        | false => exact ih.cons flatC (fun _ _ h => h) (fun _ _ h => .inl h)
      | sl o t =>
        cases o with
        | true =>
          obtain ⟨v0, rfl⟩ : ∃ v0, cs = [v0] := by have := hr.len; simp [Ty.size] at this; exact List.length_eq_one_iff.1 this
          have hR : RootR h L I (β k) (.arr false t a) (F k) := by rw [hβ0, hF0]; exact hr
          exact ih.cons (ρ' := (k, .arr false t a) :: (initV ps x (k + 1)).2) ⟨false, t, a, look_cons_same, hβ0.symm⟩ (hlk _) (hlk2 _ hR)
        | false => exact ih.cons flatC (fun _ _ h => h) (fun _ _ h => .inl h)
      | _ => exact ih.cons flatC (fun _ _ h => h) (fun _ _ h => .inl h)

end
end Go.Proofs.Ytnffdeokhcojfaa.E

namespace Go.Proofs.Ytnffdeokhcojfaa.E
open Go
set_option linter.unusedSimpArgs false
set_option linter.unusedVariables false

section
variable {C : Ctx} {I : Set'} {β : Nat → Value} {F : Nat → List Nat} {w : World} {tm : Array Value}

theorem outSlots_ge : ∀ {ps : List (Bool × Ty)} {n k : Nat}, k ∈ outSlots ps n → n ≤ k
  | [], n, k, h => by simp [outSlots] at h
  | (len, τ) :: ps, n, k, h => by
    have h' : k = n ∨ k ∈ outSlots ps (n + 1) := by
      cases len with
      | true => exact .inr h
      | false =>
        cases τ with
        | ref o t =>
          cases o with
          | true => simpa [outSlots] using h
          | false => exact .inr h
        | _ => exact .inr h
    rcases h' with h' | h'
    · omega
    · have := outSlots_ge h'; omega

theorem outsOf_ok : ∀ (ps : List (Bool × Ty)) {n : Nat} {σ : St} {o : denL (outTys ps)} {vs : List Value}, outsOf ps n σ = some o → (∀ i, SVR (hpOf w) C.L I β σ.r (find σ.t i) (tm.getD i undef)) → (∀ r R, look σ.r r = some R → RootR (hpOf w) C.L I (β r) R (F r)) → vs.length = ps.length →
    (∀ j, n + j ∈ outSlots ps n → tm.getD (n + j) undef = vs.getD j undef) → OutsR (hpOf w) I ps vs o ((outSlots ps n).map F) ∧ ∀ k ∈ outSlots ps n, ∃ R, look σ.r k = some R
  | [], n, σ, o, vs, he, hs, hr, hl, ht => ⟨rfl, by simp [outSlots]⟩
  | (len, τ) :: ps, n, σ, o, [], he, hs, hr, hl, ht => by simp at hl
  | (len, τ) :: ps, n, σ, o, v :: vs, he, hs, hr, hl, ht => by
    have hl' : vs.length = ps.length := by simpa using hl
    have step : ∀ {o' : denL (outTys ps)}, outsOf ps (n + 1) σ = some o' → (∀ k, k ∈ outSlots ps (n + 1) → k ∈ outSlots ((len, τ) :: ps) n) → OutsR (hpOf w) I ps vs o' ((outSlots ps (n + 1)).map F) ∧ ∀ k ∈ outSlots ps (n + 1), ∃ R, look σ.r k = some R := by
      intro o' h1 h2
      refine outsOf_ok ps h1 hs hr hl' fun j hj => ?_
      have := ht (j + 1) (by rw [show n + (j + 1) = n + 1 + j by omega]; exact h2 _ hj)
      rw [show n + 1 + j = n + (j + 1) by omega, this]; rfl
    cases len with
    | true => exact step he (fun _ h => h)
    | false =>
      cases τ with
      | ref o' t =>
        cases o' with
        | false => exact step he (fun _ h => h)
        | true =>
          obtain ⟨a, o⟩ := o
          simp only [outsOf] at he
          split at he
          · rename_i k hf
            split at he
            · rename_i u a0 hk hlk
              split at he
              · rename_i y r hc hr2
                cases he
                obtain rfl := Nat.eq_of_beq_eq_true hk
                obtain ⟨rfl, hx⟩ := cast?_some hc
                have := eq_of_heq hx
                subst this
                obtain ⟨g1, g2⟩ := step hr2 (fun k h => by simp [outSlots, h])
                have hR := hr k _ hlk
                have h1 := hs k
                rw [hf] at h1
                have h2 := p_val h1
                rw [box_ptr hR] at h2
                have h3 := ht 0 (by simp [outSlots])
                simp only [Nat.add_zero, List.getD_cons_zero] at h3
                rw [h3] at h2
                subst h2
                refine ⟨⟨Rep.wide (fun b hb => ?_) hR, g1⟩, ?_⟩
                · rcases hb with hb | ⟨hb, _⟩
                  · exact hb
                  · cases hb
                · intro k' hk'
                  simp only [outSlots, List.mem_cons] at hk'
                  rcases hk' with rfl | hk'
                  · exact ⟨_, hlk⟩
                  · exact g2 k' hk'
              · simp at he
            · simp at he
          · simp at he
      | _ => exact step he (fun _ h => h)

theorem outSlots_nodup : ∀ (ps : List (Bool × Ty)) (n : Nat), (outSlots ps n).Nodup
  | [], n => by simp [outSlots]
  | (len, τ) :: ps, n => by
    have ih := outSlots_nodup ps (n + 1)
    cases len with
    | true => exact ih
    | false =>
      cases τ with
      | ref o t =>
        cases o with
        | true => exact List.nodup_cons.2 ⟨fun h => by have := outSlots_ge h; omega, ih⟩
        | false => exact ih
      | _ => exact ih

end
end Go.Proofs.Ytnffdeokhcojfaa.E

namespace Go.Proofs.Ytnffdeokhcojfaa.E
open Go
set_option linter.unusedSimpArgs false
set_option linter.unusedVariables false

theorem results_run {P : Program} {fd : Func} {w : World} {tm : Array Value} {vals : List Value} (h1 : (fd.results.toList.mapM (resF tm)).run P w = .ok vals w) : (results fd tm).run P w = .ok (tupleV vals) w := by
  have hf : results fd tm = (do let vs ← fd.results.mapM (resF tm); pure (if h : vs.size = 1 then vs[0] else .tuple vs)) := rfl
  rw [hf, Array.mapM_eq_mapM_toList]
  simp only [Sem.run_bind, bind_pure_comp, Sem.run_map] at *
  refine (congrArg (fun r : Result (List Value) => (r.andThen fun a w' => Result.ok a.toArray w').andThen fun (a : Array Value) w' => Result.ok (if h : a.size = 1 then a[0] else Value.tuple a) w') h1).trans ?_
  simp only [Result.andThen_ok]
  match vals with
  | [] => rfl
  | [t] => rfl
  | t :: u :: l => rfl

end Go.Proofs.Ytnffdeokhcojfaa.E

namespace Go.Proofs.Ytnffdeokhcojfaa.E
open Go
set_option linter.unusedSimpArgs false
set_option linter.unusedVariables false

theorem tm_getD (vs : List Value) (m j : Nat) : (vs.toArray ++ Array.replicate m undef).getD j undef = vs.getD j undef := by
  rw [Array.getD_eq_getD_getElem?, Array.getElem?_append]
  by_cases h : j < vs.length
  · simp [h]
  · have h' : vs.length ≤ j := by omega
    have h2 : ¬ j < vs.toArray.size := by simpa using h'
    rw [if_neg h2, Array.getElem?_replicate]
    split <;> simp [List.getD, h']

theorem flat_getD_nodup : ∀ {Xs : List (List Nat)}, Xs.flatten.Nodup → ∀ r, (Xs.getD r []).Nodup
  | [], _, r => by simp
  | X :: Xs, h, 0 => by simp only [List.flatten_cons, List.nodup_append] at h; exact h.1
  | X :: Xs, h, r + 1 => by simp only [List.flatten_cons, List.nodup_append] at h; rw [List.getD_cons_succ]; exact flat_getD_nodup h.2.1 r

theorem flat_getD_mem {b : Nat} : ∀ {Xs : List (List Nat)} {r : Nat}, b ∈ Xs.getD r [] → b ∈ Xs.flatten
  | [], r, h => by simp at h
  | X :: Xs, 0, h => by simp at h; simp [h]
  | X :: Xs, r + 1, h => by rw [List.getD_cons_succ] at h; simp only [List.flatten_cons, List.mem_append]; exact .inr (flat_getD_mem h)

theorem flat_getD_disj {b : Nat} : ∀ {Xs : List (List Nat)} {r r' : Nat}, Xs.flatten.Nodup → r ≠ r' → b ∈ Xs.getD r [] → b ∉ Xs.getD r' []
  | [], r, r', _, _, h => by simp at h
  | X :: Xs, 0, 0, _, hne, _ => absurd rfl hne
  | X :: Xs, 0, r' + 1, hn, _, h => by
    simp only [List.flatten_cons, List.nodup_append] at hn
    intro h'
    rw [List.getD_cons_succ] at h'
    exact hn.2.2 b (by simpa using h) b (flat_getD_mem h') rfl
  | X :: Xs, r + 1, 0, hn, _, h => by
    simp only [List.flatten_cons, List.nodup_append] at hn
    intro h'
    rw [List.getD_cons_succ] at h
    exact hn.2.2 b (by simpa using h') b (flat_getD_mem h) rfl
  | X :: Xs, r + 1, r' + 1, hn, hne, h => by
    simp only [List.flatten_cons, List.nodup_append] at hn
    rw [List.getD_cons_succ] at h ⊢
    exact flat_getD_disj hn.2.1 (by omega) h

/-- ready to return: the call's answer -/
theorem back_ok {C : Ctx} {ps : List (Bool × Ty)} {rs : List Ty} {rv : List ResultVar} {q : denL rs} {o : denL (outTys ps)} {σ : St} {w : World} {a a0 : Act} {c : Code} {vs : List Value} (hR : RetS C rs rv q σ w a) (ho : outsOf ps 0 σ = some o) (hk : Keep (dsts c) a0 a)
    (hap : apart (outSlots ps 0) (dsts c) = true) (h0 : ∀ j, a0.tmps.getD j undef = vs.getD j undef) (hl : vs.length = ps.length) :
    a.defers = [] ∧ ∃ vals, (rv.mapM (resF a.tmps)).run C.P w = .ok vals w ∧ ∃ I' Ys Zs, Back C ps rs vs q o (tupleV vals) w I' vals Ys Zs := by
  obtain ⟨hd, vals, hrv, I, β, F, Ys, hi, hrs, hn, hown, hapr⟩ := hR
  obtain ⟨d1, d2⟩ := apart_iff hap
  obtain ⟨g1, g2⟩ := outsOf_ok (C := C) (F := F) (tm := a.tmps) ps ho hi.slots hi.roots hl (fun j hj => by
    rw [Nat.zero_add] at hj ⊢
    have : natMem j (dsts c) = false := by
      cases hq : natMem j (dsts c) with
      | false => rfl
      | true => exact (d2 j hj (natMem_iff.1 hq)).elim
    rw [hk j this, h0 j])
  have hZ : ∀ b, b ∈ ((outSlots ps 0).map F).flatten → ∃ k ∈ outSlots ps 0, b ∈ F k := by
    intro b hb
    obtain ⟨W, hW, hw⟩ := List.mem_flatten.1 hb
    obtain ⟨k, hk', rfl⟩ := List.mem_map.1 hW
    exact ⟨k, hk', hw⟩
  refine ⟨hd, vals, hrv, I, Ys, _, ⟨rfl, hrs, g1, ?_, ?_, hi.shared, hi.sub, hi.frame, hi.grow, hi.rest⟩⟩
  · rw [List.nodup_append]
    refine ⟨hn, flatF_nodup (outSlots_nodup ps 0) (fun r hr => ?_) (fun r hr r' hr' hne => ?_), ?_⟩
    · obtain ⟨R, hR⟩ := g2 r hr; exact hi.nodup r R hR
    · obtain ⟨R, hR⟩ := g2 r hr
      obtain ⟨R', hR'⟩ := g2 r' hr'
      exact hi.disj r r' R R' hne hR hR'
    · rintro b hb b' hb' rfl
      obtain ⟨k, hk', hbk⟩ := hZ b hb'
      obtain ⟨R, hR⟩ := g2 k hk'
      exact hapr k R hR b hb hbk
  · intro b hb
    rcases List.mem_append.1 hb with hb | hb
    · exact hown b hb
    · obtain ⟨k, hk', hbk⟩ := hZ b hb
      obtain ⟨R, hR⟩ := g2 k hk'
      exact hi.own k R hR b hbk

theorem fnB_ok {P : Program} {E' : Env} {fn : E'.Fn} (hmx : P.follows .mixedOrders = true) (hfn : FnOk P E' fn) {f : FuncId} {fd : Func} {c : Code} {k : Nat} {a : denL (E'.sig f).pt} {q : denL (E'.sig f).rs} {o : denL (E'.sig f).os} (hf : P.funcs[f]? = some fd) (hb : fd.body = some c)
    (he : fnB E' fn k f c fd.ntmps fd.results.toList a = some (q, o)) : Hold P E'.T f (E'.sig f).ps (E'.sig f).rs a q o := by
  intro C hP hT w vs Xs hh hn hzr hargs hX hXn hXb
  unfold fnB at he
  cases hc : (Nat.ble (E'.sig f).ps.length fd.ntmps && apart (outSlots (E'.sig f).ps 0) (dsts c)) with
  | false => simp [hc] at he
  | true =>
    simp only [hc] at he
    simp only [Bool.and_eq_true] at hc
    obtain ⟨hl, hlX⟩ := argsR_len _ hargs
    have hle : vs.length ≤ fd.ntmps := by rw [hl]; exact Nat.le_of_ble_eq_true hc.1
    have hst := initV_ok (E'.sig f).ps (k := 0) (β := fun i => vs.getD i undef) (F := fun i => Xs.getD i []) hargs (fun j => by rw [Nat.zero_add]) (fun j => by rw [Nat.zero_add])
    have hi : Inv C C.I (fun i => vs.getD i undef) (fun i => Xs.getD i []) ⟨(initV (E'.sig f).ps a 0).1, [], (initV (E'.sig f).ps a 0).2, fd.ntmps⟩ w (vs.toArray ++ Array.replicate (fd.ntmps - vs.toArray.size) undef) := by
      have hXm : ∀ r b, b ∈ Xs.getD r [] → C.X b := fun r b hb => (hX b).2 (flat_getD_mem hb)
      constructor
      case size => simp; omega
      case slots =>
        intro i
        rw [tm_getD]
        rcases find_mem (l := (initV (E'.sig f).ps a 0).1) (i := i) with h | h
        · simp only; rw [h]; exact trivial
        · have := (hst.1 i _ h).2
          rw [hh]; simpa using this
      case conds => intro k e u v h; simp at h
      case undefs => intro k e u v h; simp at h
      case roots => intro r R h; rw [hh]; exact hst.2 r R h
      case nodup => intro r R _; exact flat_getD_nodup hXn r
      case disj => intro r r' R R' hne _ _ b hb; exact flat_getD_disj hXn hne hb
      case own => intro r R _ b hb; exact ⟨fun h => (C.Iok b h).2 (hXm r b hb), fun h => (C.Lok b h).2 (hXm r b hb), by rw [hn]; exact hXb b (flat_getD_mem hb), .inl (hXm r b hb)⟩
      case shared => intro b hb; exact ⟨by rw [hn]; exact (C.Iok b hb).1, .inl hb⟩
      case sub => exact fun _ h => h
      case frame => intro b _ _; rw [hh]
      case grow => rw [hn]; exact Nat.le_refl _
      case rest => exact hzr
    refine calls_of_wp hf hb ?_
    refine ev_ok hmx hfn f fd.results.toList k c he hP hT (a := { tmps := vs.toArray ++ Array.replicate (fd.ntmps - vs.toArray.size) undef, defers := [] }) ⟨rfl, _, _, _, hi⟩ ?_
    have fin : ∀ {σ' : St} {a' : Act} {w' : World} {q' : denL (E'.sig f).rs} {o' : denL (E'.sig f).os}, RetS C (E'.sig f).rs fd.results.toList q' σ' w' a' → outsOf (E'.sig f).ps 0 σ' = some o' → (q', o') = (q, o) → Keep (dsts c) { tmps := vs.toArray ++ Array.replicate (fd.ntmps - vs.toArray.size) undef, defers := [] } a' →
        a'.defers = [] ∧ ∃ v, (results fd a'.tmps).run P w' = .ok v w' ∧ ∃ v' I' vals Ys Zs, Ending.returned v = .returned v' ∧ Back C (E'.sig f).ps (E'.sig f).rs vs q o v' w' I' vals Ys Zs := by
      intro σ' a' w' q' o' h1 h2 h3 h4
      cases h3
      obtain ⟨g1, vals, g2, I', Ys, Zs, g3⟩ := back_ok h1 h2 h4 hc.2 (fun j => tm_getD vs _ j) hl
      exact ⟨g1, _, results_run (hP ▸ g2), _, I', _, Ys, Zs, rfl, g3⟩
    intro e σ' a' w' h1 h2 h3
    cases e with
    | n =>
      simp only at h1
      rw [← hT] at h1
      cases ht : takesV C.T (E'.sig f).rs fd.results.toList σ' with
      | none => simp [ht] at h1
      | some p =>
        obtain ⟨q', σ2⟩ := p
        simp only [ht] at h1
        cases ho : outsOf (E'.sig f).ps 0 σ2 with
        | none => simp [ho] at h1
        | some o' =>
          simp only [ho, Option.some.injEq] at h1
          exact fin (ret_ok h2 ht) ho h1 h3
    | e j => simp at h1
    | r q' =>
      simp only at h1
      cases ho : outsOf (E'.sig f).ps 0 σ' with
      | none => simp [ho] at h1
      | some o' =>
        simp only [ho, Option.some.injEq] at h1
        exact fin h2 ho h1 h3

/-- THE EVALUATOR IS SOUND -/
theorem fnE_ok {P : Program} {E' : Env} (hmx : P.follows .mixedOrders = true) (hF : ∀ f fd, E'.F f = some fd → P.funcs[f]? = some fd)
    (hkn : ∀ f, E'.known f = true → ∃ F, P.funcs[f]? = some F ∧ F.body.isSome = true ∧ F.name ≠ "runtime.NumGoroutine") (hpr : PrimOk P E') : ∀ k, FnOk P E' (fnE E' k)
  | 0 => ⟨hpr, fun f hf => ⟨hkn f hf, fun a q o he => by simp [fnE] at he⟩⟩
  | k + 1 => ⟨hpr, fun f hf => ⟨hkn f hf, fun a q o he => by
      simp only [fnE, fnS] at he
      cases h1 : E'.F f with
      | none => simp [h1] at he
      | some fd =>
        simp only [h1] at he
        cases h2 : fd.body with
        | none => simp [h2] at he
        | some c =>
          simp only [h2] at he
          exact fnB_ok hmx (fnE_ok hmx hF hkn hpr k) (hF f fd h1) h2 he⟩⟩

end Go.Proofs.Ytnffdeokhcojfaa.E

namespace Go.Proofs.Ytnffdeokhcojfaa.E
open Go Go.ChangeShapes Go.WideShapes Go.RowKit
set_option linter.unusedSimpArgs false
set_option linter.unusedVariables false

/-! what a law is handed, read by value -/

mutual
/-- a type of the program's table, told by 'τ' -/
def fitsB (T : Tab) : Nat → TypeId → Ty → Bool
  | 0, _, _ => false
  | n + 1, t, τ => match und T t, τ with
    | some (.int k), .int j => kindEq k j
    | some .bool, .bool => true
    | some .string, .str => true
    | some (.slice e), .sl false u => szB T e u.size && !(Nat.beq u.size 0) && fitsB T n e u
    | some (.struct fs), τ => szB T t τ.size && fitsFB T n fs.toList τ 0
    | _, _ => false
def fitsFB (T : Tab) : Nat → List Field → Ty → Nat → Bool
  | 0, _, _, _ => false
  | _ + 1, [], .unit, _ => true
  | n + 1, f :: fs, .pair a b, o => Nat.beq f.offset o && szB T f.type a.size && fitsB T n f.type a && fitsFB T n fs b (o + a.size)
  | _, _, _, _ => false
end

/-- integers fit their kinds, rows are no longer than can be -/
def inTy : (τ : Ty) → den τ → Prop
  | .int k, (n : Int) => k.min ≤ n ∧ n ≤ k.max
  | .str, s => s.length ≤ maxLen
  | .pair a b, x => inTy a x.1 ∧ inTy b x.2
  | .sl _ t, xs => xs.length ≤ maxLen ∧ ∀ x ∈ xs, inTy t x
  | _, _ => True

def TabOk (P : Program) (T : Tab) : Prop :=
  ∀ t i, T t = some i → P.underlying t = some i.d ∧ ∃ j z, P.info? t = some j ∧ j.size = i.size ∧ j.bytes = i.bytes ∧ j.zero = some z ∧ z.cells.toList = i.zero

section
variable {P : Program} {T : Tab} {H : Type} {enc : TypeId × Value → H} {w : World}

theorem und_P (hT : TabOk P T) {t : TypeId} {d : TypeDesc} (h : und T t = some d) : P.underlying t = some d := by
  unfold und at h
  split at h
  · rename_i i hi
    rw [← h]; exact (hT t i hi).1
  · cases h

theorem sz_P (hT : TabOk P T) {t : TypeId} {n : Nat} (h : szB T t n = true) : P.cellsOf t = n := by
  unfold szB at h
  split at h
  · rename_i i hi
    obtain ⟨_, j, z, h1, h2, _⟩ := hT t i hi
    unfold Program.cellsOf
    rw [h1]
    simp only [Option.map_some, Option.getD_some]
    rw [h2]
    exact Nat.eq_of_beq_eq_true h
  · cases h

theorem mapM_getElem {α β : Type} {f : α → Option β} : ∀ {l : List α} {r : List β}, l.mapM f = some r → l.length = r.length ∧ ∀ (i : Nat) (x : α), l[i]? = some x → f x = r[i]?
  | [], r, h => by simp at h; subst h; simp
  | a :: l, r, h => by
    rw [List.mapM_cons] at h
    cases hx : f a with
    | none => simp [hx] at h
    | some y =>
      cases hl : l.mapM f with
      | none => simp [hx, hl] at h
      | some ys =>
        simp [hx, hl] at h
        subst h
        obtain ⟨h1, h2⟩ := mapM_getElem hl
        refine ⟨by simp [h1], fun i x hi => ?_⟩
        cases i with
        | zero => simp at hi; subst hi; simpa using hx
        | succ i => simp at hi; simpa using h2 i x hi

/-- cells that are read lie in a block -/
theorem cells_block {base : Nat} {a : Addr} {n : Nat} {cs : List Value} (h : w.cells? base a n = some cs) (hn : 0 < n) :
    ∃ arr E' fr, a.spot = none ∧ hpOf w a.block = some (.cells arr E' fr) ∧ a.off + n ≤ arr.size ∧ cs = (arr.toList.drop a.off).take n := by
  unfold World.cells? at h
  split at h
  · obtain ⟨h1, h2⟩ := mapM_getElem h
    simp at h1
    have key : ∀ i, i < n → w.cell? (a.add i) = cs[i]? := fun i hi => h2 i i (by simp [hi])
    obtain ⟨b, o, s⟩ := a
    have h0 := key 0 hn
    rw [List.getElem?_eq_getElem (by omega)] at h0
    have hs : s = none := by
      have := World.cell?_spot h0
      cases s with
      | none => rfl
      | some k => simp [Addr.add] at this
    subst hs
    simp only [addr_add] at key
    have hb : ∃ arr E' fr, w.heap[b]? = some (.cells arr E' fr) := by
      rw [addr_add] at h0
      unfold World.cell? at h0
      simp only at h0
      split at h0
      · rename_i c E' fr hc; exact ⟨c, E', fr, hc⟩
      · cases h0
    obtain ⟨arr, E', fr, hb⟩ := hb
    have hcell : ∀ i, w.cell? ⟨b, o + i, none⟩ = arr[o + i]? := fun i => by unfold World.cell?; simp [hb]
    have hsz : o + n ≤ arr.size := by
      have h3 := key (n - 1) (by omega)
      rw [hcell, List.getElem?_eq_getElem (by omega)] at h3
      have := (Array.getElem?_eq_some_iff.1 h3).1
      omega
    refine ⟨arr, E', fr, rfl, hb, hsz, ?_⟩
    apply List.ext_getElem?
    intro i
    rw [List.getElem?_take]
    by_cases hi : i < n
    · rw [if_pos hi, ← key i hi, hcell, List.getElem?_drop]; simp
    · rw [if_neg hi, List.getElem?_eq_none (by omega)]
  · cases h

theorem RL.cat {α : Type} {R : α → List Value → List Nat → Prop} {s : Nat} {cs : List Value} : ∀ (n k : Nat) (f : Nat → α), (∀ i, i < n → R (f i) ((cs.drop ((k + i) * s)).take s) []) → (k + n) * s ≤ cs.length →
    RL R ((List.range n).map f) ((cs.drop (k * s)).take (n * s)) []
  | 0, k, f, _, _ => by simp [RL]
  | n + 1, k, f, h, hl => by
    rw [List.range_succ_eq_map, List.map_cons, List.map_map]
    refine ⟨(cs.drop (k * s)).take s, (cs.drop ((k + 1) * s)).take (n * s), [], [], ?_, rfl, by have := h 0 (by omega); simpa using this, ?_⟩
    · have e : (n + 1) * s = s + n * s := by rw [Nat.add_mul, Nat.one_mul, Nat.add_comm]
      rw [e, List.take_add, List.drop_drop]
      congr 3
      rw [Nat.add_mul, Nat.one_mul]
    · have := RL.cat (R := R) (s := s) (cs := cs) n (k + 1) (f ∘ Nat.succ) (fun i hi => by have := h (i + 1) (by omega); simpa [Nat.add_assoc, Nat.add_comm 1 i] using this) (by simpa [Nat.add_assoc, Nat.add_comm 1 n] using hl)
      exact this

theorem trod_rep (hT : TabOk P T) : ∀ (n : Nat),
    (∀ {t : TypeId} {τ : Ty}, fitsB T n t τ = true → ∀ {fuel : Nat} {cs : List Value} {x : DataW H × List MemPlace}, DataW.trod enc P w 0 (fun _ => true) true fuel t cs = some x →
      ∃ a : den τ, Rep (hpOf w) (fun b => b < w.heap.size) true τ a cs [] ∧ inTy τ a) ∧
    (∀ {fs : List Field} {τ : Ty} {o : Nat}, fitsFB T n fs τ o = true → ∀ {cs : List Value}, (∀ f ∈ fs, ∃ fuel, ∃ x : DataW H × List MemPlace, DataW.trod enc P w 0 (fun _ => true) true fuel f.type ((cs.drop f.offset).take (P.cellsOf f.type)) = some x) →
      o + τ.size = cs.length → ∃ a : den τ, Rep (hpOf w) (fun b => b < w.heap.size) true τ a (cs.drop o) [] ∧ inTy τ a)
  | 0 => ⟨fun h => by simp [fitsB] at h, fun h => by simp [fitsFB] at h⟩
  | n + 1 => by
    obtain ⟨ih1, ih2⟩ := trod_rep hT n
    constructor
    · intro t τ h fuel cs x hx
      unfold fitsB at h
      split at h
      · rename_i k j hu
        obtain rfl := kindEq_iff h
        obtain ⟨m, rfl, _, h3⟩ := DataW.trod_int (und_P hT hu) hx
        refine ⟨m, ⟨rfl, rfl⟩, ?_⟩
        simp only [Lit.wf, Bool.and_eq_true, decide_eq_true_eq] at h3
        exact h3
      · rename_i hu
        obtain ⟨b, rfl, _⟩ := DataW.trod_bool (und_P hT hu) hx
        exact ⟨b, ⟨rfl, rfl⟩, trivial⟩
      · rename_i hu
        obtain ⟨s, rfl, _, h3⟩ := DataW.trod_string (und_P hT hu) hx
        refine ⟨s.data.toList, ⟨rfl, rfl⟩, ?_⟩
        show s.data.toList.length ≤ maxLen
        simpa using h3
      · rename_i e u hu
        simp only [Bool.and_eq_true, Bool.not_eq_true'] at h
        obtain ⟨⟨h1, h2⟩, h3⟩ := h
        have hsz := sz_P hT h1
        have hpos : 0 < u.size := by
          rcases Nat.eq_zero_or_pos u.size with h0 | h0
          · rw [h0] at h2; simp at h2
          · exact h0
        rcases DataW.trod_slice (und_P hT hu) hx with ⟨rfl, _⟩ | ⟨a, len, cap, elems, rest, m, _, rfl, _, _, hlc, hcm, hel, hread, hspare, _⟩
        · exact ⟨[], ⟨none, 0, rfl, Nat.le_refl _, .inl ⟨rfl, rfl, rfl, rfl⟩⟩, by simp [inTy]⟩
        · obtain ⟨hrl, hrest⟩ := hspare rfl
          by_cases hc0 : cap = 0
          · subst hc0
            obtain rfl : len = 0 := by omega
            exact ⟨[], ⟨some a, 0, rfl, Nat.le_refl _, .inl ⟨rfl, rfl, rfl, rfl⟩⟩, by simp [inTy]⟩
          · have hall : ∀ i, i < cap → ∃ cs', w.cells? 0 (a.add (i * u.size)) u.size = some cs' ∧ ∃ y, DataW.trod enc P w 0 (fun _ => true) true m e cs' = some y := by
              intro i hi
              have hget : ∃ y, (w.cells? 0 (a.add (i * u.size)) u.size).bind (DataW.trod enc P w 0 (fun _ => true) true m e) = some y := by
                rw [← hsz]
                by_cases hl : i < len
                · rw [hread i hl]; exact ⟨elems[i], by rw [List.getElem?_eq_getElem]⟩
                · have := hrest (i - len) (by omega)
                  rw [show len + (i - len) = i by omega] at this
                  rw [this]; exact ⟨rest[i - len], by rw [List.getElem?_eq_getElem]⟩
              obtain ⟨y, hy⟩ := hget
              rw [Option.bind_eq_some_iff] at hy
              obtain ⟨cs', h5, h6⟩ := hy
              exact ⟨cs', h5, y, h6⟩
            obtain ⟨b, o, s⟩ := a
            obtain ⟨cs0, g0, _⟩ := hall 0 (by omega)
            obtain ⟨arr, E', fr, hs, hb, _, _⟩ := cells_block g0 hpos
            have hs0 : s = none := by
              cases s with
              | none => rfl
              | some k => simp [Addr.add] at hs
            subst hs0
            simp only [addr_add] at hall hb
            have hblk : ∀ i, i < cap → o + i * u.size + u.size ≤ arr.size ∧ ∃ x : den u, Rep (hpOf w) (fun b => b < w.heap.size) true u x ((arr.toList.drop (o + i * u.size)).take u.size) [] ∧ inTy u x := by
              intro i hi
              obtain ⟨cs', h5, y, h6⟩ := hall i hi
              obtain ⟨arr', E2, fr', _, hb', hsz', rfl⟩ := cells_block h5 hpos
              simp only at hb' hsz'
              rw [hb] at hb'
              simp only [Option.some.injEq, Obj.cells.injEq] at hb'
              obtain ⟨rfl, _, _⟩ := hb'
              exact ⟨hsz', ih1 h3 h6⟩
            have hbl : b < w.heap.size := by
              have : w.heap[b]? = some (.cells arr E' fr) := hb
              exact (Array.getElem?_eq_some_iff.1 this).1
            have hcap : o + cap * u.size ≤ arr.size := by
              have := (hblk (cap - 1) (by omega)).1
              have e : cap * u.size = (cap - 1) * u.size + u.size := by
                conv => lhs; rw [show cap = (cap - 1) + 1 by omega, Nat.add_mul, Nat.one_mul]
              omega
            have hch : ∀ i, ∃ x : den u, i < len → Rep (hpOf w) (fun b => b < w.heap.size) true u x ((arr.toList.drop (o + i * u.size)).take u.size) [] ∧ inTy u x := by
              intro i
              by_cases hi : i < len
              · obtain ⟨x, hx⟩ := (hblk i (by omega)).2; exact ⟨x, fun _ => hx⟩
              · exact ⟨dflt u, fun h => (hi h).elim⟩
            have hch' : ∃ f : Nat → den u, ∀ i, i < len → Rep (hpOf w) (fun b => b < w.heap.size) true u (f i) ((arr.toList.drop (o + i * u.size)).take u.size) [] ∧ inTy u (f i) :=
              ⟨fun i => Classical.choose (hch i), fun i => Classical.choose_spec (hch i)⟩
            obtain ⟨f, hf⟩ := hch'
            refine ⟨(List.range len).map f, ⟨some ⟨b, o, none⟩, cap, by simp, by simpa using hlc, .inr ⟨b, o, arr, E', fr, [], rfl, hb, hcap, ?_, ?_⟩⟩, ?_⟩
            · have hle : len * u.size ≤ cap * u.size := Nat.mul_le_mul_right _ hlc
              have := RL.cat (R := Rep (hpOf w) (fun b => b < w.heap.size) true u) (s := u.size) (cs := arr.toList.drop o) len 0 f (fun i hi => by
                rw [List.drop_drop, Nat.zero_add]; exact (hf i hi).1) (by simp; omega)
              simpa using this
            · simp [hbl]
            · refine ⟨by simp; omega, fun x hx => ?_⟩
              obtain ⟨i, hi, rfl⟩ := List.mem_map.1 hx
              exact (hf i (by simpa using hi)).2
      · rename_i τ' fs hu
        simp only [Bool.and_eq_true] at h
        obtain ⟨h1, h2⟩ := h
        obtain ⟨xs, m, _, _, hl, hlen, hf⟩ := DataW.trod_struct (und_P hT hu) hx
        obtain ⟨a, h3, h4⟩ := ih2 h2 (cs := cs) (fun f hfm => by
          obtain ⟨i, hi, rfl⟩ := List.getElem_of_mem hfm
          have hi' : i < fs.size := by simpa using hi
          have := hf i fs[i] (by simp [hi'])
          refine ⟨m, xs[i], ?_⟩
          rw [Array.getElem_toList, this, List.getElem?_eq_getElem]) (by rw [hl, sz_P hT h1]; simp)
        exact ⟨a, by simpa using h3, h4⟩
      · cases h
    · intro fs τ o h cs hfs hlen
      unfold fitsFB at h
      split at h
      · rename_i h0; cases h0
      · refine ⟨(), ⟨?_, rfl⟩, trivial⟩
        apply List.drop_eq_nil_of_le
        simp [Ty.size] at hlen
        omega
      · rename_i o' m f fs a b hn
        obtain rfl : m = n := by omega
        simp only [Bool.and_eq_true] at h
        obtain ⟨⟨⟨h1, h2⟩, h3⟩, h4⟩ := h
        obtain rfl := Nat.eq_of_beq_eq_true h1
        simp only [Ty.size] at hlen
        obtain ⟨fuel, x, hx⟩ := hfs f (by simp)
        rw [sz_P hT h2] at hx
        obtain ⟨y, g1, g2⟩ := ih1 h3 hx
        obtain ⟨z, k1, k2⟩ := ih2 h4 (cs := cs) (fun f' hf' => hfs f' (by simp [hf'])) (by omega)
        refine ⟨(y, z), ⟨(cs.drop f.offset).take a.size, cs.drop (f.offset + a.size), [], [], ?_, rfl, g1, k1⟩, g2, k2⟩
        rw [← List.drop_drop, List.take_append_drop]
      · cases h

end
end Go.Proofs.Ytnffdeokhcojfaa.E

namespace Go.Proofs.Ytnffdeokhcojfaa.E
open Go Go.ChangeShapes Go.WideShapes Go.RowKit
set_option linter.unusedSimpArgs false
set_option linter.unusedVariables false

def fitsLB (T : Tab) : List TypeId → List (Bool × Ty) → Bool
  | [], [] => true
  | t :: ts, (true, τ) :: ps => fitsB T 40 t τ && fitsLB T ts ps
  | _, _ => false

def inTyL : (ps : List (Bool × Ty)) → denL (ps.map (·.2)) → Prop
  | [], _ => True
  | (_, τ) :: ps, (a, r) => inTy τ a ∧ inTyL ps r

section
variable {P : Program} {T : Tab} {H : Type} {enc : TypeId × Value → H} {w : World}

theorem cells_one {v : Value} (h : ∀ cs, v ≠ .agg cs) : v.cells = #[v] := by
  cases v <;> first | rfl | exact (h _ rfl).elim

theorem wrap_ok (hT : TabOk P T) {n b0 : Nat} {t : TypeId} {τ : Ty} {v : Value} (hf : fitsB T n t τ = true) (hv : Value.okWide P w .any b0 t v) : v = wrapV τ v.cells.toList := by
  cases n with
  | zero => simp [fitsB] at hf
  | succ n =>
    have one : (∀ cs, v ≠ .agg cs) → τ.isAgg = false → v = wrapV τ v.cells.toList := fun h h2 => by
      rw [cells_one h]; simp [wrapV, h2]
    unfold fitsB at hf
    split at hf
    · rename_i k j hu
      refine one (fun cs hc => ?_) rfl
      subst hc; simp [Value.okWide, und_P hT hu, Cell.okWide, Cell.ok] at hv
    · rename_i hu
      refine one (fun cs hc => ?_) rfl
      subst hc; simp [Value.okWide, und_P hT hu, Cell.okWide, Cell.ok] at hv
    · rename_i hu
      refine one (fun cs hc => ?_) rfl
      subst hc; simp [Value.okWide, und_P hT hu, Cell.okWide, Cell.ok] at hv
    · rename_i e u hu
      refine one (fun cs hc => ?_) rfl
      subst hc; simp [Value.okWide, und_P hT hu, Cell.okWide, Cell.ok] at hv
    · rename_i τ x2 τ' fs hu
      simp only [Value.okWide, und_P hT hu] at hv
      obtain ⟨cs, rfl, _⟩ := hv
      simp only [Bool.and_eq_true] at hf
      have ha : τ.isAgg = true := by
        cases n with
        | zero => simp [fitsFB] at hf
        | succ n =>
          cases fs.toList <;> cases τ <;> first | rfl | (simp [fitsFB] at hf)
      simp [wrapV, ha, Value.cells]
    · cases hf

theorem args_of (hT : TabOk P T) {b0 : Nat} {L I : Set'} (hL : ∀ b, b < w.heap.size → L b) : ∀ {ts : List TypeId} {ps : List (Bool × Ty)} {vs : List Value} {ds : List (DataW H)} {q : List MemPlace}, fitsLB T ts ps = true →
    DataW.TrodAll enc P w 0 (fun _ => true) true ts vs ds q → (∀ (j : Nat) t v, ts[j]? = some t → vs[j]? = some v → Value.okWide P w .any b0 t v) →
    ∃ a : denL (ps.map (·.2)), ArgsR (hpOf w) L I ps a vs (ps.map fun _ => []) ∧ inTyL ps a
  | [], [], vs, ds, q, _, hA, _ => by
    obtain ⟨rfl, rfl, rfl⟩ := trodAll_nil hA
    exact ⟨(), trivial, trivial⟩
  | [], _ :: _, _, _, _, h, _, _ => by simp [fitsLB] at h
  | _ :: _, [], _, _, _, h, _, _ => by simp [fitsLB] at h
  | _ :: _, (false, _) :: _, _, _, _, h, _, _ => by simp [fitsLB] at h
  | t :: ts, (true, τ) :: ps, vs, ds, q, h, hA, hv => by
    simp only [fitsLB, Bool.and_eq_true] at h
    obtain ⟨v, vs', d, ds', p, q', rfl, rfl, rfl, h1, h2⟩ := trodAll_cons hA
    obtain ⟨a, g1, g2⟩ := args_of hT hL (I := I) h.2 h2 (fun j t' v' e1 e2 => hv (j + 1) t' v' (by simpa using e1) (by simpa using e2))
    obtain ⟨fuel, hx⟩ := h1
    obtain ⟨x, k1, k2⟩ := (trod_rep hT 40).1 h.1 hx
    refine ⟨(x, a), ⟨⟨_, Rep.keep (S := fun b => b < w.heap.size) (fun b hb => ⟨.inr ⟨rfl, hL b hb⟩, rfl⟩) (fun _ _ => rfl) k1, wrap_ok hT h.1 (hv 0 t v (by simp) (by simp))⟩, g1⟩, k2, g2⟩

theorem trodAll_len : ∀ {ts : List TypeId} {vs : List Value} {ds : List (DataW H)} {ps : List MemPlace}, DataW.TrodAll enc P w 0 (fun _ => true) true ts vs ds ps → ds.length = ts.length
  | [], _, _, _, h => by obtain ⟨rfl, rfl, rfl⟩ := trodAll_nil h; rfl
  | _ :: _, _, _, _, h => by
    obtain ⟨v, vs', d, ds', p, q', rfl, rfl, rfl, _, h2⟩ := trodAll_cons h
    simp [trodAll_len h2]

theorem same_of_heap {w w' : World} {p : MemPlace} (h : p.block < w.heap.size) (he : ∀ b, b < w.heap.size → hpOf w' b = hpOf w b) : w.sameAt w' p := by
  have e : w'.heap[p.block]? = w.heap[p.block]? := he _ h
  cases p with
  | cell b off =>
    show w'.cell? ⟨b, off, none⟩ = w.cell? ⟨b, off, none⟩
    unfold World.cell?
    simp only [MemPlace.block] at e
    simp only [e]
  | map b => exact e

theorem kept_of_heap {w w' : World} {may : MemPlace → Prop} (he : ∀ b, b < w.heap.size → hpOf w' b = hpOf w b) (hz : restOf w' = restOf w) : w.keptBut w' may := by
  simp only [restOf, Prod.mk.injEq] at hz
  refine ⟨hz.1, hz.2, fun i hi => ?_⟩
  have e : w'.heap[i]? = w.heap[i]? := he i hi
  rw [e]
  cases h : w.heap[i]? with
  | none => rfl
  | some o =>
    cases o with
    | cells c t fr => exact ⟨rfl, rfl, rfl, fun _ _ => rfl⟩
    | map es clock => exact .inr ⟨rfl, rfl⟩
    | _ => rfl

theorem trodAll_carry {w' : World} (he : ∀ b, b < w.heap.size → hpOf w' b = hpOf w b) : ∀ {ts : List TypeId} {vs : List Value} {ds : List (DataW H)} {ps : List MemPlace},
    DataW.TrodAll enc P w 0 (fun _ => true) true ts vs ds ps → DataW.TrodAll enc P w' 0 (fun _ => true) true ts vs ds ps
  | [], _, _, _, h => by
    obtain ⟨rfl, rfl, rfl⟩ := trodAll_nil h
    exact rfl
  | _ :: _, _, _, _, h => by
    obtain ⟨v, vs', d, ds', p, q', rfl, rfl, rfl, ⟨fuel, h1⟩, h2⟩ := trodAll_cons h
    refine ⟨p, q', ⟨fuel, DataW.trod_carry _ _ _ _ h1 fun x hx => same_of_heap (DataW.trod_lt _ _ _ _ h1 x hx) he⟩, trodAll_carry he h2, rfl⟩

/-- WHAT A LAW'S ROW ASKS OF ITS CALL, from the plain fact -/
theorem law_calls (hT : TabOk P T) {f : FuncId} {fd : Func} {ps : List (Bool × Ty)} {s : ChangeSpec} {apart fresh handsOn again : Bool} {tb : TypeId}
    (kids : Kids P (· < P.types.size)) (full : ∀ t e, t < P.types.size → P.underlying t = some (.slice e) → 0 < P.cellsOf e)
    (hps : ∀ t ∈ fd.params.toList, t < P.types.size) (hfit : fitsLB T fd.params.toList ps = true) (hrt : fd.resultTypes = #[tb]) (htb : P.underlying tb = some .bool)
    (hvars : s.vars = []) (hs : ∀ ds : List (DataW H), ds.length = fd.params.size → s.fn H ds = { results := [.lit (.bool true)], args := ds })
    (hH : ∀ a : denL (ps.map (·.2)), inTyL ps a → ∃ o, Hold P T f ps [.bool] a (true, ()) o)
    (W : World) (base : Nat) (args : Array Value) (ds gs : List (DataW H)) (before : List MemPlace)
    (hval : ∀ (j : Nat) t v, fd.params[j]? = some t → args[j]? = some v → Value.okWide P W .any base t v)
    (hW : DataW.Whole enc P fd.params.toList s.vars apart W args.toList ds gs before) :
    Calls P f args W fun e W' => ∃ v, e = .returned v ∧ s.post enc P fd apart fresh handsOn again W args v W' := by
  obtain ⟨p, q, hA, hV, hpq, hfz, hnd⟩ := id hW
  rw [hvars] at hV
  obtain ⟨rfl, rfl⟩ := trodVars_none hV
  rw [List.append_nil] at hpq
  subst hpq
  let C : Ctx := { P := P, T := T, h := hpOf W, n := W.heap.size, L := fun b => b < W.heap.size, I := fun _ => False, X := fun _ => False, z := restOf W
                   Iok := fun _ h => h.elim
                   Lok := fun b h => ⟨h, fun h => h⟩
                   ok := hT }
  obtain ⟨a, ha, hin⟩ := args_of (I := C.I) (L := C.L) hT (fun b h => h) hfit hA (fun j t v e1 e2 => hval j t v (by simpa using e1) (by simpa using e2))
  obtain ⟨o, hh⟩ := hH a hin
  have hX : ∀ l : List (Bool × Ty), ((l.map fun _ => ([] : List Nat))).flatten = [] := by
    intro l
    induction l with
    | nil => rfl
    | cons _ _ ih => simp
  have := hh C rfl rfl W args.toList _ rfl rfl rfl ha (fun b => by rw [hX]; simp [C]) (by rw [hX]; simp) (by rw [hX]; simp)
  rw [Array.toArray_toList] at this
  refine this.mono ?_
  rintro e W' ⟨v, I', vals, Ys, Zs, rfl, hB⟩
  have hfr : ∀ b, b < W.heap.size → hpOf W' b = hpOf W b := fun b hb => hB.frame b hb (fun h => h)
  have hv : v = .bool true := by
    have hr := hB.rets
    have hval := hB.val
    match vals, Ys, hr with
    | [v1], [Y1], ⟨⟨cs, h1, h2⟩, _⟩ =>
      rw [hval, h2, h1.1]; rfl
    | [], _, h => exact h.elim
    | [_], [], h => exact h.elim
    | _ :: _ :: _, [], h => exact h.elim
    | _ :: _ :: _, _ :: _, ⟨_, h⟩ => exact h.elim
    | [_], _ :: _ :: _, ⟨_, h⟩ => exact h.elim
  subst hv
  refine ⟨_, rfl, ?_⟩
  have hlen := trodAll_len hA
  have hs' := hs ds (by simpa using hlen)
  have hold : ∀ b ∈ before, (fun b => decide (b < W.heap.size)) b.block = true := fun b hb => by simpa using hW.lt b hb
  have hargs : ∀ sp : Nat → Bool, (∀ p ∈ before, sp p.block = true) → DataW.TrodAll enc P W' 0 sp true fd.params.toList args.toList ds before := fun sp hsp =>
    DataW.TrodAll.respare kids full hps (trodAll_carry hfr hA) hsp
  have hres : ∀ (b : Nat) (sp : Nat → Bool) (hd : Bool), DataW.TrodAll enc P W' b sp hd fd.resultTypes.toList ((Value.bool true).resultList fd.resultTypes.size) [.lit (.bool true)] [] := by
    intro b sp hd
    rw [hrt]
    exact trodAll_mk1 (shut_bool htb true)
  have hz : ∀ b off, MemPlace.cell b off ∈ before → W'.frozen? ⟨b, off, none⟩ = false := by
    intro b off hp
    have hlt : b < W.heap.size := hW.lt _ hp
    rw [← hfz b off hp]
    have e : W'.heap[b]? = W.heap[b]? := hfr b hlt
    unfold World.frozen?
    simp only [e]
  refine ⟨ds, [], before, [], before, [], hW, ?_, ?_, ?_, kept_of_heap hfr hB.rest, fun _ => ⟨?_, [.lit (.bool true)] ++ ds, [], [] ++ before, ⟨[] ++ before, [], trodAll_append (hargs _ (fun _ _ => rfl)) (hres _ _ _), ?_, by simp, by simpa [World.noneFrozen] using hz, by simpa using hnd⟩, fun p hp _ => by simpa using hp⟩⟩
  · rw [List.append_nil, hs']; exact hres _ _ _
  · rw [List.append_nil, hs']; exact hargs _ hold
  · rw [List.append_nil, hs', hvars]; exact rfl
  · intro j t r h1 h2
    rw [hrt] at h1 h2
    cases j with
    | zero =>
      simp [Value.resultList] at h1 h2
      subst h1; subst h2
      simp [Value.okWide, htb, Cell.okWide, Cell.ok]
    | succ j => simp at h1
  · rw [hvars]; exact rfl

end
end Go.Proofs.Ytnffdeokhcojfaa.E

namespace Go.Proofs.Ytnffdeokhcojfaa.E
open Go
set_option linter.unusedSimpArgs false
set_option linter.unusedVariables false

/-! the tables, off the program itself -/

def tabOf (P : Program) : Tab := fun t =>
  match P.underlying t, P.info? t with
  | some d, some j => match j.zero with
    | some z => some ⟨d, j.size, j.bytes, z.cells.toList⟩
    | none => none
  | _, _ => none

theorem tabOf_ok (P : Program) : TabOk P (tabOf P) := by
  intro t i h
  unfold tabOf at h
  split at h
  · rename_i d j hd hj
    split at h
    · rename_i z hz
      simp only [Option.some.injEq] at h
      subst h
      exact ⟨hd, j, z, hj, rfl, rfl, hz, rfl⟩
    · cases h
  · cases h

def tyFs (g : TypeId → Option Ty) : List Field → Option Ty
  | [] => some .unit
  | f :: fs => match g f.type, tyFs g fs with
    | some a, some b => some (.pair a b)
    | _, _ => none

def tyOf (P : Program) : Nat → TypeId → Option Ty
  | 0, _ => none
  | n + 1, t => match P.underlying t with
    | some (.int k) => some (.int k)
    | some .bool => some .bool
    | some .string => some .str
    | some (.slice e) => match tyOf P n e with | some u => some (.sl false u) | none => none
    | some (.array m e) => match tyOf P n e with | some u => some (.arr m u) | none => none
    | some (.struct fs) => tyFs (tyOf P n) fs.toList
    | _ => none

def mkEnv (P : Program) (sigT : List (Nat × Sig)) (annT : List (Nat × List (Nat × Cut))) (prim : FuncId → Option Nat → List SV → St → OpR) : Env :=
  { T := tabOf P, F := fun f => P.funcs[f]?, ty := tyOf P 12, sig := fun f => (tab sigT f).getD ⟨[], []⟩, known := fun f => (tab sigT f).isSome,
    ann := fun f b => match tab annT f with | some l => tab l b | none => none, prim := prim }

/-- a block's code, by its number -/
def findB (id : Nat) : Code → Option Code
  | .seq a b => match findB id a with | some c => some c | none => findB id b
  | .cond _ a b => match findB id a with | some c => some c | none => findB id b
  | .block j (.loop c) => match Nat.beq j id with | true => some c | false => findB id c
  | .block j c => match Nat.beq j id with | true => some c | false => findB id c
  | .loop c => findB id c
  | _ => none

theorem tab_mem {α : Type} : ∀ {l : List (Nat × α)} {n : Nat} {x : α}, tab l n = some x → (n, x) ∈ l
  | [], n, x, h => by simp [tab] at h
  | (k, y) :: l, n, x, h => by
    unfold tab at h
    split at h
    · rename_i he
      cases h
      rw [Nat.eq_of_beq_eq_true he]; simp
    · exact List.mem_cons_of_mem _ (tab_mem h)

theorem mkEnv_ok {P : Program} {sigT : List (Nat × Sig)} {annT : List (Nat × List (Nat × Cut))} {prim : FuncId → Option Nat → List SV → St → OpR} (hmx : P.follows .mixedOrders = true) (hpr : PrimOk P (mkEnv P sigT annT prim))
    (hk : (sigT.all fun p => match P.funcs[p.1]? with | some F => F.body.isSome && !(F.name == "runtime.NumGoroutine") | none => false) = true) (k : Nat) : FnOk P (mkEnv P sigT annT prim) (fnE (mkEnv P sigT annT prim) k) := by
  refine fnE_ok hmx (fun f fd h => h) (fun f hf => ?_) hpr k
  simp only [mkEnv, Option.isSome_iff_exists] at hf
  obtain ⟨x, hx⟩ := hf
  have := List.all_eq_true.1 hk _ (tab_mem hx)
  simp only at this
  split at this
  · rename_i F hF
    simp only [Bool.and_eq_true, Bool.not_eq_true', beq_eq_false_iff_ne] at this
    exact ⟨F, hF, this.1, this.2⟩
  · cases this

end Go.Proofs.Ytnffdeokhcojfaa.E
