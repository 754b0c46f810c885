/- A plain evaluator of the program's form on data by value, and the proof that it is sound. No condition. -/
import Derived.Test.YthlpjdjipchdkaaDoorRegsLatestGB
import Derived.Calls
import Derived.Laws.AppendOwn
import Derived.Laws.Strings
import Derived.Laws.StructEq
import Derived.Laws.MakeOwn
import Derived.Laws.BytesArg
import Derived.Lib.ConvBytes
import Derived.Laws.Tables
import Derived.Laws.NewFold
import Derived.WideKeyRuns
import Derived.MapKept
import Derived.Orders
import Derived.ProofKit
import Derived.SizedLaws
import Derived.Lib.AppendZerosOnto
import Derived.Lib.Overlaps
import Derived.Laws.Externs
import Derived.Laws.IdiomCopy
import Derived.Deep.AppendSrc
import Derived.Shelf.RegionOpenPlain
import Derived.WalkKit
import Derived.Lib.Walk
import Derived.Lib.SliceRun
import Derived.Lib.JoinLaws
import Derived.Lib.Bytealg

namespace Go.Proofs.YthlpjdjipchdkaaDoor.E
open Go
set_option linter.unusedSimpArgs false
set_option linter.unusedVariables false
section
variable {C : Ctx} {I : Set'} {β : Nat → Value} {F : Nat → List Nat} {σ : St} {w : World} {tm : Array Value}
theorem kill_look (σ : St) (r k : Nat) : (k = r → look (σ.kill r).r k = none) ∧ (k ≠ r → look (σ.kill r).r k = look σ.r k) :=
  ⟨fun h => by subst h; exact look_del_same, fun h => look_del_ne h⟩
theorem killL_ok : ∀ (m : List Nat) {σ : St}, Inv C I β F σ w tm → Inv C I β F (killL m σ) w tm ∧ (killL m σ).n = σ.n ∧ (killL m σ).b = σ.b ∧ (∀ k, k ∈ m → look (killL m σ).r k = none) ∧ (∀ k, k ∉ m → look (killL m σ).r k = look σ.r k)
  | [], σ, hi => ⟨hi, rfl, rfl, by simp, fun _ _ => rfl⟩
  | r :: m, σ, hi => by
    obtain ⟨h1, h2, h3, h4, h5⟩ := killL_ok m (hi.kill r)
    refine ⟨h1, h2, h3, fun k hk => ?_, fun k hk => ?_⟩
    · simp only [killL]
      by_cases hm : k ∈ m
      · exact h4 k hm
      · rcases List.mem_cons.1 hk with rfl | hk
        · rw [h5 k hm]; exact (kill_look σ k k).1 rfl
        · exact (hm hk).elim
    · simp only [List.mem_cons, not_or] at hk
      simp only [killL]
      rw [h5 k hk.2]; exact (kill_look σ r k).2 hk.1
theorem killL_less (m : List Nat) (hi : Inv C I β F σ w tm) : Less F I σ I (killL m σ) := by
  obtain ⟨_, h2, h3, h4, h5⟩ := killL_ok m hi
  refine ⟨fun _ h => h, h2, h3, fun k => ?_, fun b hb => .inl hb⟩
  by_cases hk : k ∈ m
  · cases hl : look σ.r k with
    | none => left; rw [h4 k hk]; trivial
    | some R => right; exact ⟨by simp, h4 k hk⟩
  · left; rw [h5 k hk]; exact LikeO.refl _
structure Taken (C : Ctx) (I' : Set') (F : Nat → List Nat) (σ' : St) (w : World) (X : List Nat) : Prop where
  nodup : X.Nodup
  own : ∀ b ∈ X, ¬ I' b ∧ ¬ C.L b ∧ b < w.heap.size ∧ (C.X b ∨ C.n ≤ b)
  apart : ∀ k R, look σ'.r k = some R → ∀ b ∈ F k, b ∉ X
theorem Inv.taken (hi : Inv C I β F σ w tm) {m : List Nat} {X : List Nat} (hm : m.Nodup) (hl : ∀ r ∈ m, look σ.r r ≠ none) (hX : Inc X (m.map F).flatten) : Taken C I F (killL m σ) w X := by
  obtain ⟨_, _, _, h4, h5⟩ := killL_ok m hi
  refine ⟨hX.nodup (hi.flat_nodup hm hl), fun b hb => ?_, fun k R hk b hb hbX => ?_⟩
  · obtain ⟨Y, hY, hb⟩ := List.mem_flatten.1 (hX.mem b hb)
    obtain ⟨r, hr, rfl⟩ := List.mem_map.1 hY
    cases hq : look σ.r r with
    | none => exact (hl r hr hq).elim
    | some R => exact hi.own r R hq b hb
  · obtain ⟨Y, hY, hbY⟩ := List.mem_flatten.1 (hX.mem b hbX)
    obtain ⟨r, hr, rfl⟩ := List.mem_map.1 hY
    have hkm : k ∉ m := fun h => by rw [h4 k h] at hk; cases hk
    rw [h5 k hkm] at hk
    cases hq : look σ.r r with
    | none => exact hl r hr hq
    | some R' => exact hi.disj k r R R' (fun e => hkm (e ▸ hr)) hk hq b hb hbY
theorem takeV_ok (hi : Inv C I β F σ w tm) {τ : Ty} {sv : SV} {v : Value} {y : den τ} {σ' : St} (hs : SVR (hpOf w) C.L I β σ.r sv v) (he : takeV σ τ sv = some (y, σ')) :
    ∃ I' cs X, Inv C I' β F σ' w tm ∧ Less F I σ I' σ' ∧ Rep (hpOf w) (Sx C.L I' false) false τ y cs X ∧ v = wrapV τ cs ∧ Taken C I' F σ' w X ∧ ∀ b ∈ X, ∃ k R, look σ.r k = some R ∧ b ∈ F k := by
  unfold takeV at he
  split at he
  · rename_i hf
    split at he
    rename_i sv' σ1 hsh
    cases ht : toV false τ sv' with
    | none => simp [ht] at he
    | some z =>
      simp only [ht, Option.some.injEq, Prod.mk.injEq] at he
      obtain ⟨rfl, rfl⟩ := he
      obtain ⟨I', h1, h2, h3⟩ := shared_ok hi hs hsh
      obtain ⟨cs, h4, h5⟩ := toV_ok ht h2
      exact ⟨I', cs, [], h1, h3, rep_any hf h4, h5, ⟨List.nodup_nil, by simp, by simp⟩, by simp⟩
  · cases ht : takeN σ τ sv with
    | none => simp [ht] at he
    | some p =>
      obtain ⟨z, m⟩ := p
      simp only [ht, Option.some.injEq, Prod.mk.injEq] at he
      obtain ⟨rfl, rfl⟩ := he
      obtain ⟨⟨cs, X, h1, h2, h3⟩, h4, h5⟩ := takeN_ok hi hs ht
      refine ⟨I, cs, X, (killL_ok m hi).1, killL_less m hi, h1, h2, hi.taken h4 h5 h3, fun b hb => ?_⟩
      obtain ⟨Z, hZ, hbZ⟩ := List.mem_flatten.1 (h3.mem b hb)
      obtain ⟨k, hk, rfl⟩ := List.mem_map.1 hZ
      cases hl : look σ.r k with
      | none => exact (h5 k hk hl).elim
      | some R => exact ⟨k, R, hl, hbZ⟩
end
end Go.Proofs.YthlpjdjipchdkaaDoor.E

namespace Go.Proofs.YthlpjdjipchdkaaDoor.E
open Go
set_option linter.unusedSimpArgs false
set_option linter.unusedVariables false
section
variable {C : Ctx} {I : Set'} {β : Nat → Value} {F : Nat → List Nat} {σ : St} {w : World} {tm : Array Value}
theorem fullT_lent (hi : Inv C I β F σ w tm) {L1 I2 : Set'} (hL : ∀ b, C.L b → L1 b) (hI : ∀ b, I b → I2 b) {t : Ty} {a : den t} {cs : List Value} {u : Ty} {y : den u} {m : List Nat} (hf : fullT (fullR σ.r true 9) t a = some ⟨u, y, m⟩) (hF : ∀ r ∈ m, ∀ b ∈ F r, L1 b)
    (hr : Rep (hpOf w) (Sx L1 I2 true) true t a cs []) (hh : Holes β σ.r t cs) : Rep (hpOf w) (Sx L1 I2 true) true u y cs [] ∧ u.isAgg = t.isAgg := by
  obtain ⟨Y, h1, h2, h3⟩ := fullT_rep (h := hpOf w) (S := Sx L1 I2 true) (l := true) (β := β) (ρ := σ.r) (G := fun _ => []) (P := fun r => ∀ b ∈ F r, L1 b) (fun _ _ => rfl) rfl
    (fun k u y m' h hP => by
      obtain ⟨g1, g2, X, g3, g4⟩ := fullR_ok hi 9 k u y m' h
      refine ⟨g1, g2, [], Rep.lend (fun b hb => ?_) (fun b hb => ?_) g3, Inc.refl⟩
      · rcases hb with hb | ⟨_, hb⟩
        · exact .inl (hI b hb)
        · exact .inr ⟨rfl, hL b hb⟩
      · obtain ⟨Z, hZ, hb⟩ := List.mem_flatten.1 (g4.mem b hb)
        obtain ⟨r, hr, rfl⟩ := List.mem_map.1 hZ
        exact .inr ⟨rfl, hP r hr b hb⟩) hf hF hr hh
  have : Y = [] := h1.lentX
  subst this
  exact ⟨h1, h3⟩
theorem lentV_ok (hi : Inv C I β F σ w tm) {τ : Ty} {sv : SV} {v : Value} {a : den τ} {m : List Nat} (hs : SVR (hpOf w) C.L I β σ.r sv v) (he : lentV σ τ sv = some (a, m)) {L1 I2 : Set'}
    (hL : ∀ b, C.L b → L1 b) (hF : ∀ r ∈ m, ∀ b ∈ F r, L1 b) (hI : ∀ b, I b → I2 b) : ∃ cs, Rep (hpOf w) (Sx L1 I2 true) true τ a cs [] ∧ v = wrapV τ cs := by
  have hSx : ∀ l b, Sx C.L I l b → Sx L1 I2 true b := by
    rintro l b (hb | ⟨_, hb⟩)
    · exact .inl (hI b hb)
    · exact .inr ⟨rfl, hL b hb⟩
  have wide : ∀ {l : Bool} {t : Ty} {x : den t} {cs : List Value}, Rep (hpOf w) (Sx C.L I l) true t x cs [] → Rep (hpOf w) (Sx L1 I2 true) true t x cs [] := fun h => Rep.keep (fun b hb => ⟨hSx _ b hb, rfl⟩) (fun _ _ => rfl) h
  have other : (match toV true τ sv with | some y => some (y, ([] : List Nat)) | none => none) = some (a, m) → ∃ cs, Rep (hpOf w) (Sx L1 I2 true) true τ a cs [] ∧ v = wrapV τ cs := by
    intro h
    cases ht : toV true τ sv with
    | none => simp [ht] at h
    | some y =>
      simp only [ht, Option.some.injEq, Prod.mk.injEq] at h
      obtain ⟨rfl, rfl⟩ := h
      obtain ⟨cs, h1, h2⟩ := toV_ok ht hs
      exact ⟨cs, wide h1, h2⟩
  have hroot : ∀ {r : Nat} {f l : Bool} {t : Ty} {xs : List (den t)}, look σ.r r = some (.arr f l t xs) → (∀ b ∈ F r, L1 b) → Rep (hpOf w) (Sx L1 I2 true) true (.sl true t) xs [β r] [] := by
    intro r f l t xs hl hb
    exact Rep.lend (hSx l) (fun b hb' => .inr ⟨rfl, hb b hb'⟩) (hi.roots r _ hl).1
  have own : ∀ {o p : Bool} {t : Ty} {x : List (den t)} {cs : List Value}, Rep (hpOf w) (Sx L1 I2 true) true (.sl o t) x cs [] → Rep (hpOf w) (Sx L1 I2 true) true (.sl p t) x cs [] := by
    rintro o p t x cs ⟨a, c, h1, h2, h3⟩
    exact ⟨a, c, h1, h2, by simpa using h3⟩
  have hplace : ∀ {r : Nat} {s : List Sel} {R : Root} {l0 : Bool} {o0 : Nat} {t : Ty} {x : den t} {u : Ty} {y : den u} {m' : List Nat}, sv = .p r s → look σ.r r = some R → R.get s = some (l0, ⟨o0, t, x⟩) → fullT (fullR σ.r true 9) t x = some ⟨u, y, m'⟩ →
      (∀ k ∈ r :: m', ∀ b ∈ F k, L1 b) → Rep (hpOf w) (Sx L1 I2 true) true (.ref false u) y [v] [] := by
    intro r s R l0 o0 t x u y m' hsv hl hg hf hb
    subst hsv
    obtain ⟨R1, o, u0, b, base, arr, E', fr, h1, h2, h3, h4, h5, h6, h7, h8, h9, h10⟩ := place hi hs
    rw [hl] at h1
    obtain rfl := Option.some.inj h1
    obtain ⟨q1, q2, q3, q4, Y, q5, q6⟩ := h10 l0 _ hg
    simp only at q1 q2 q4 q6
    subst q1; subst q2
    have hl1 := Rep.lend (S' := Sx L1 I2 true) (hSx l0) (fun k hk => .inr ⟨rfl, hb r (by simp) k (q5 k hk)⟩) q6
    obtain ⟨g1, _⟩ := fullT_lent hi hL hI hf (fun k hk => hb k (by simp [hk])) hl1 q4
    have hsz : u.size = t.size := g1.len.symm.trans hl1.len
    refine ⟨b, base + o0, arr, E', fr, [], by rw [h4], h5, by rw [hsz]; exact h8, by rw [hsz]; simpa using g1, ?_⟩
    simp only [Bool.not_true, Bool.and_false, Bool.false_eq_true, if_false, and_true]
    exact .inr ⟨rfl, hb r (by simp) b h7⟩
  cases sv with
  | sf r =>
    simp only [lentV] at he
    split at he
    · rename_i o u
      cases hq : elems σ u (.sf r) with
      | none => simp [hq] at he
      | some q =>
        obtain ⟨l', ys⟩ := q
        simp only [hq, Option.some.injEq, Prod.mk.injEq] at he
        obtain ⟨rfl, rfl⟩ := he
        obtain ⟨f, l, t, xs, h1, h2⟩ := hs
        simp only [elems, h1] at hq
        cases hc : cast? (t := .sl false t) (.sl false u) xs with
        | none => simp [hc] at hq
        | some zs =>
          simp only [hc, Option.some.injEq, Prod.mk.injEq] at hq
          obtain ⟨_, rfl⟩ := hq
          obtain ⟨ht, hx⟩ := cast?_some hc
          simp only [Ty.sl.injEq, true_and] at ht
          subst ht
          have := eq_of_heq hx
          subst this
          exact ⟨[β r], own (hroot h1 (hF r (by simp))), by rw [h2]; rfl⟩
    · simp at he
  | s r lo n =>
    simp only [lentV] at he
    split at he
    · rename_i o u
      cases hq : elems σ u (.s r lo n) with
      | none => simp [hq] at he
      | some q =>
        obtain ⟨l', ys⟩ := q
        simp only [hq, Option.some.injEq, Prod.mk.injEq] at he
        obtain ⟨rfl, rfl⟩ := he
        obtain ⟨f, l, t, xs, h1, h2, h3⟩ := hs
        simp only [elems, h1] at hq
        cases hc : cast? (t := .sl false t) (.sl false u) xs with
        | none => simp [hc] at hq
        | some zs =>
          simp only [hc, Option.some.injEq, Prod.mk.injEq] at hq
          obtain ⟨_, rfl⟩ := hq
          obtain ⟨ht, hx⟩ := cast?_some hc
          simp only [Ty.sl.injEq, true_and] at ht
          subst ht
          have := eq_of_heq hx
          subst this
          exact ⟨[v], sub_rep (own (hroot h1 (hF r (by simp)))) h3 h2, rfl⟩
    · simp at he
  | q l t b =>
    simp only [lentV] at he
    split at he
    · rename_i u
      cases hc : coeL u t b with
      | none => simp [hc] at he
      | some y =>
        simp only [hc, Option.some.injEq, Prod.mk.injEq] at he
        obtain ⟨rfl, rfl⟩ := he
        exact ⟨[v], (coeL_rep (τ := .ref false u) (t := .ref false t) (by simpa [coeL] using hc) (wide hs)).1, rfl⟩
    · rename_i u
      cases hc : coeL u t b with
      | none => simp [hc] at he
      | some y =>
        simp only [hc, Option.some.injEq, Prod.mk.injEq] at he
        obtain ⟨rfl, rfl⟩ := he
        exact ⟨[v], (coeL_rep (τ := .ptr false u) (t := .ref false t) (y := some y) (by simp [coeL, hc]) (wide hs)).1, rfl⟩
    · simp at he
  | p r s =>
    simp only [lentV] at he
    split at he
    · rename_i u
      split at he
      · rename_i R hl
        split at he
        · rename_i l0 o0 t x hg
          split at he
          · rename_i t' x' m' hf
            cases hc : coeL u t' x' with
            | none => simp [hc] at he
            | some y =>
              simp only [hc, Option.some.injEq, Prod.mk.injEq] at he
              obtain ⟨rfl, rfl⟩ := he
              exact ⟨[v], (coeL_rep (τ := .ref false u) (t := .ref false t') (by simpa [coeL] using hc) (hplace rfl hl hg hf hF)).1, rfl⟩
          · simp at he
        · simp at he
      · simp at he
    · rename_i u
      split at he
      · rename_i R hl
        split at he
        · rename_i l0 o0 t x hg
          split at he
          · rename_i t' x' m' hf
            cases hc : coeL u t' x' with
            | none => simp [hc] at he
            | some y =>
              simp only [hc, Option.some.injEq, Prod.mk.injEq] at he
              obtain ⟨rfl, rfl⟩ := he
              exact ⟨[v], (coeL_rep (τ := .ptr false u) (t := .ref false t') (y := some y) (by simp [coeL, hc]) (hplace rfl hl hg hf hF)).1, rfl⟩
          · simp at he
        · simp at he
      · simp at he
    · simp at he
  | mp r =>
    simp only [lentV] at he
    split at he
    · rename_i o k vt a' m' hf
      split at he
      · rename_i o' k' v'
        cases hc : cast? (t := .map false k vt) (.map false k' v') a' with
        | none => simp [hc] at he
        | some y =>
          simp only [hc, Option.some.injEq, Prod.mk.injEq] at he
          obtain ⟨rfl, rfl⟩ := he
          obtain ⟨l, k0, vt0, es0, z0, h1, h2⟩ := hs
          obtain ⟨_, _, X, g3, g4⟩ := fullR_ok hi 9 r _ _ _ hf
          have g5 := Rep.lend (S' := Sx L1 I2 true) (hSx true) (fun b hb => by
            obtain ⟨Z, hZ, hb⟩ := List.mem_flatten.1 (g4.mem b hb)
            obtain ⟨r', hr, rfl⟩ := List.mem_map.1 hZ
            exact .inr ⟨rfl, hF r' hr b hb⟩) g3
          exact ⟨[v], by rw [h2]; exact (coeL_rep (τ := .map o' k' v') (t := .map o k vt) (by simpa [coeL] using hc) g5).1, rfl⟩
      · simp at he
    · simp at he
  | v l t b =>
    simp only [lentV] at he
    split at he
    · rename_i t' x' m' hf
      cases hc : coeL τ t' x' with
      | none => simp [hc] at he
      | some y =>
        simp only [hc, Option.some.injEq, Prod.mk.injEq] at he
        obtain ⟨rfl, rfl⟩ := he
        obtain ⟨cs, g1, g2, g3⟩ := hs
        obtain ⟨g4, g5⟩ := fullT_lent hi hL hI hf hF (wide g1) g3
        obtain ⟨g6, g7⟩ := coeL_rep hc g4
        exact ⟨cs, g6, by rw [g2]; simp [wrapV, g7, g5]⟩
    · simp at he
  | nl => exact other (by unfold lentV at he; exact he)
  | np => exact other (by unfold lentV at he; exact he)
  | x => simp [lentV, toV] at he
  | tup _ => simp [lentV, toV] at he
  | fn _ _ _ => simp [lentV, toV] at he
end
end Go.Proofs.YthlpjdjipchdkaaDoor.E

namespace Go.Proofs.YthlpjdjipchdkaaDoor.E
open Go
set_option linter.unusedSimpArgs false
set_option linter.unusedVariables false
section
variable {C : Ctx} {I : Set'} {β : Nat → Value} {F : Nat → List Nat} {σ : St} {w : World} {tm : Array Value}
theorem Inv.write2 (hi : Inv C I β F σ w tm) {w' : World} {r : Nat} {R R' : Root} {Y : List Nat} (hr : look σ.r r = some R) (hlike : R.like R') (hsz : w.heap.size ≤ w'.heap.size) (hz : restOf w' = restOf w)
    (hh : ∀ b, b < w.heap.size → b ∉ F r → hpOf w' b = hpOf w b) (hY : Y.Nodup) (hown : ∀ b ∈ Y, ¬ I b ∧ ¬ C.L b ∧ b < w'.heap.size ∧ (C.X b ∨ C.n ≤ b)) (hap : ∀ k R1, k ≠ r → look σ.r k = some R1 → ∀ b ∈ F k, b ∉ Y)
    (hR : RootR (hpOf w') C.L I (β r) R' Y) (hH : RootH (hpOf w') β (upd σ.r r R') (β r) R') :
    Inv C I β (updF F r Y) { t := σ.t, c := σ.c, r := upd σ.r r R', n := σ.n, b := σ.b, k := σ.k } w' tm := by
  have hI : ∀ b, I b → I b ∧ hpOf w' b = hpOf w b := fun b hb => ⟨hb, hh b (hi.shared b hb).1 fun hm => (hi.own r R hr b hm).1 hb⟩
  have hL : ∀ b, C.L b → hpOf w' b = hpOf w b := fun b hb => hh b (Nat.lt_of_lt_of_le (C.Lok b hb).1 hi.grow) fun hm => (hi.own r R hr b hm).2.1 hb
  have hsame : ∀ k, Same β β σ.r (upd σ.r r R') k := by
    intro k
    by_cases e : k = r
    · subst e
      simp only [Same, hr, look_upd_same hr]
      exact ⟨hlike, by simp⟩
    · simp only [Same, look_upd_ne e]
      exact ⟨LikeO.refl _, by simp⟩
  have hlook : ∀ {k R1}, look (upd σ.r r R') k = some R1 → (k = r ∧ R1 = R') ∨ (k ≠ r ∧ look σ.r k = some R1) := by
    intro k R1 hl
    by_cases e : k = r
    · subst e
      rw [look_upd_same hr] at hl
      exact .inl ⟨rfl, (Option.some.inj hl).symm⟩
    · rw [look_upd_ne e] at hl; exact .inr ⟨e, hl⟩
  refine hi.turn (f := fun sv => sv) rfl rfl (fun _ => rfl) (mapK_id _).symm (fun k e u v hm => ⟨v, hm, rfl⟩) hsz hz (fun _ h => h) (fun _ h => .inl h) ?_ (fun sv v hs => SVR.mono hI hL (fun k _ => hsame k) hs) ?_ ?_
  · intro b hb hX
    refine hh b (Nat.lt_of_lt_of_le hb hi.grow) (fun hm => ?_)
    rcases (hi.own r R hr b hm).2.2.2 with h | h
    · exact hX h
    · omega
  · intro k R1 hl
    rcases hlook hl with ⟨rfl, rfl⟩ | ⟨hne, hl⟩
    · rw [updF_same]
      exact ⟨hR, hH, hY, hown⟩
    · rw [updF_ne _ _ hne]
      have h1 := hi.root hl
      have hF : ∀ b ∈ F k, hpOf w' b = hpOf w b := fun b hb => hh b (h1.own b hb).2.2.1 (hi.disj k r R1 R hne hl hr b hb)
      exact ⟨h1.rep.keep hI hL hF, h1.holes.keep hF h1.rep (fun j _ => hsame j), h1.nodup, fun b hb => by have := h1.own b hb; exact ⟨this.1, this.2.1, by omega, this.2.2.2⟩⟩
  · intro k k' R1 R2 hne hl hl' b hb
    rcases hlook hl with ⟨rfl, rfl⟩ | ⟨hk, hl1⟩ <;> rcases hlook hl' with ⟨rfl, rfl⟩ | ⟨hk', hl1'⟩
    · exact (hne rfl).elim
    · rw [updF_same] at hb
      rw [updF_ne _ _ hk']
      exact fun hb' => hap k' R2 hk' hl1' b hb' hb
    · rw [updF_ne _ _ hk] at hb
      rw [updF_same]
      exact hap k R1 hk hl1 b hb
    · rw [updF_ne _ _ hk] at hb
      rw [updF_ne _ _ hk']
      exact hi.disj k k' R1 R2 hne hl1 hl1' b hb
end
end Go.Proofs.YthlpjdjipchdkaaDoor.E

namespace Go.Proofs.YthlpjdjipchdkaaDoor.E
open Go
set_option linter.unusedSimpArgs false
set_option linter.unusedVariables false
theorem fullK_rep {h : Hp} {S : Set'} {l : Bool} {β : Nat → Value} {ρ : List (Nat × Root)} {G : List Nat → List Nat} (hG : ∀ a b, G (appN a b) = G a ++ G b) (hG0 : G [] = []) {q : Nat → Option FV}
    (hq : ∀ k u y m, q k = some ⟨u, y, m⟩ → (u = .hole k ∧ m = []) ∨ (look ρ k ≠ none ∧ u.isAgg = false ∧ (∀ o, holesOf u o = []) ∧ ∃ X, Rep h S l u y [β k] X ∧ Inc X (G m))) :
    ∀ {t : Ty} {a : den t} {cs : List Value} {X : List Nat} {u : Ty} {y : den u} {m : List Nat}, fullT q t a = some ⟨u, y, m⟩ → Rep h S l t a cs X → Holes β ρ t cs → ∃ Y, Rep h S l u y cs Y ∧ Inc Y (X ++ G m) ∧ Holes β ρ u cs ∧ layB t u = true
  | .hole k, a, cs, X, u, y, m, hf, hr, hh => by
    simp only [fullT] at hf
    rcases hq k u y m hf with ⟨rfl, rfl⟩ | ⟨h1, h2, h2', Z, h3, h4⟩
    · exact ⟨X, hr, by rw [hG0, List.append_nil]; exact Inc.refl, hh, layB_refl _⟩
    · obtain ⟨⟨v, rfl, _⟩, rfl⟩ := hr
      have := hh (0, k) (by simp [holesOf]) h1
      simp at this
      subst this
      have hsz : u.size = 1 := h3.len.symm
      refine ⟨Z, h3, by simpa using h4, fun p hp => by rw [h2'] at hp; exact absurd hp (by simp), ?_⟩
      cases u <;> simp [Ty.isAgg] at h2 <;> simp_all [layB, Ty.size]
  | .pair a b, x, cs, X, u, y, m, hf, ⟨c1, c2, X1, X2, e1, e2, e3, e4⟩, hh => by
    subst e1
    simp only [fullT] at hf
    cases ha : fullT q a x.1 with
    | none => simp [ha] at hf
    | some p =>
      obtain ⟨u1, y1, m1⟩ := p
      simp only [ha] at hf
      cases hb : fullT q b x.2 with
      | none => simp [hb] at hf
      | some p =>
        obtain ⟨u2, y2, m2⟩ := p
        simp only [hb, Option.some.injEq, FV.mk.injEq] at hf
        obtain ⟨rfl, hf, rfl⟩ := hf
        have := eq_of_heq hf
        subst this
        obtain ⟨hh1, hh2⟩ := hh.split e3.len
        obtain ⟨Y1, g1, g2, g2', g2''⟩ := fullK_rep hG hG0 hq ha e3 hh1
        obtain ⟨Y2, g3, g4, g4', g4''⟩ := fullK_rep hG hG0 hq hb e4 hh2
        refine ⟨Y1 ++ Y2, ⟨c1, c2, Y1, Y2, rfl, rfl, g1, g3⟩, ?_, ?_, by simp [layB, g2'', g4'']⟩
        · rw [hG, e2]
          refine (g2.append g4).perm ?_
          simp only [List.append_assoc]
          refine List.Perm.append_left X1 ?_
          rw [← List.append_assoc, ← List.append_assoc]
          exact List.Perm.append_right _ List.perm_append_comm
        · intro p hp hk
          simp only [holesOf, List.mem_append] at hp
          rcases hp with hp | hp
          · have hlt := (holesOf_lt hp).2
            have hlen := g1.len
            rw [List.getElem?_append_left (by omega)]
            exact g2' p hp hk
          · rw [holesOf_shift] at hp
            obtain ⟨z, hz, rfl⟩ := List.mem_map.1 hp
            have hlen := g1.len
            simp only at hk ⊢
            rw [List.getElem?_append_right (by omega)]
            have := g4' z hz hk
            rw [← this]; congr 1; omega
  | .int _, x, cs, X, u, y, m, hf, hr, hh | .bool, x, cs, X, u, y, m, hf, hr, hh | .str, x, cs, X, u, y, m, hf, hr, hh | .unit, x, cs, X, u, y, m, hf, hr, hh | .arr _ _, x, cs, X, u, y, m, hf, hr, hh | .sl _ _, x, cs, X, u, y, m, hf, hr, hh
  | .ptr _ _, x, cs, X, u, y, m, hf, hr, hh | .ref _ _, x, cs, X, u, y, m, hf, hr, hh | .map _ _ _, x, cs, X, u, y, m, hf, hr, hh | .raw _ _, x, cs, X, u, y, m, hf, hr, hh | .nils, x, cs, X, u, y, m, hf, hr, hh | .nilp, x, cs, X, u, y, m, hf, hr, hh => by
    simp only [fullT, Option.some.injEq, FV.mk.injEq] at hf
    obtain ⟨rfl, hf, rfl⟩ := hf
    have := eq_of_heq hf
    subst this
    exact ⟨X, hr, by rw [hG0, List.append_nil]; exact Inc.refl, hh, layB_refl _⟩
theorem fullR_noholes {ρ : List (Nat × Root)} {len : Bool} : ∀ (n k : Nat) (u : Ty) (y : den u) (m : List Nat), fullR ρ len n k = some ⟨u, y, m⟩ → ∀ o, holesOf u o = []
  | 0, k, u, y, m, h => by simp [fullR] at h
  | n + 1, k, u, y, m, h => by
    simp only [fullR] at h
    repeat' split at h
    all_goals first
      | (simp at h; done)
      | (simp only [Option.some.injEq, FV.mk.injEq] at h; obtain ⟨rfl, _, _⟩ := h; intro o; rfl)
section
variable {C : Ctx} {I : Set'} {β : Nat → Value} {F : Nat → List Nat} {σ : St} {w : World} {tm : Array Value}
structure Joined (F F' : Nat → List Nat) (σ σ' : St) (r : Nat) : Prop where
  n : σ'.n = σ.n
  b : σ'.b = σ.b
  here : look σ'.r r ≠ none
  roots : ∀ k, LikeO (look σ.r k) (look σ'.r k) ∨ (look σ.r k ≠ none ∧ look σ'.r k = none)
  same : ∀ k, k ≠ r → F' k = F k
  from' : ∀ b ∈ F' r, ∃ k, look σ.r k ≠ none ∧ b ∈ F k ∧ (k = r ∨ look σ'.r k = none)
theorem Joined.less {F' : Nat → List Nat} {σ' : St} {r : Nat} (h : Joined F F' σ σ' r) : Less F I σ I σ' := ⟨fun _ h => h, h.n, h.b, h.roots, fun _ h => .inl h⟩
theorem Joined.refl {r : Nat} (h : look σ.r r ≠ none) : Joined F F σ σ r := ⟨rfl, rfl, h, fun _ => .inl (LikeO.refl _), fun _ _ => rfl, fun b hb => ⟨r, h, hb, .inl rfl⟩⟩
theorem look_upd_iff' {ρ : List (Nat × Root)} {r k : Nat} {R : Root} : look (upd ρ r R) k = none ↔ look ρ k = none := by
  by_cases e : k = r
  · subst e
    cases h : look ρ k with
    | none =>
      have : ∀ {ρ : List (Nat × Root)}, look ρ k = none → look (upd ρ k R) k = none := by
        intro ρ
        induction ρ with
        | nil => intro h; rfl
        | cons p l ih =>
          obtain ⟨n, v⟩ := p
          intro h
          simp only [look] at h
          cases hn : Nat.beq n k with
          | true => simp [hn] at h
          | false =>
            simp only [hn] at h
            simp only [upd, hn, look]
            exact ih h
      simp [this h]
    | some R' => simp [look_upd_same h]
  · rw [look_upd_ne e]
theorem joinWrite (hi : Inv C I β F σ w tm) {r : Nat} {R R' : Root} {m Y : List Nat} (hr : look σ.r r = some R) (hlike : R.like R') (hn : nodupN (r :: m) = true) (hm : ∀ k ∈ m, look σ.r k ≠ none)
    (hY : Inc Y ((r :: m).map F).flatten) (hR : RootR (hpOf w) C.L I (β r) R' Y) (hH : RootH (hpOf w) β (upd (killL m σ).r r R') (β r) R') :
    ∃ F', Inv C I β F' { t := (killL m σ).t, c := (killL m σ).c, r := upd (killL m σ).r r R', n := (killL m σ).n, b := (killL m σ).b, k := (killL m σ).k } w tm ∧
      Joined F F' σ { t := (killL m σ).t, c := (killL m σ).c, r := upd (killL m σ).r r R', n := (killL m σ).n, b := (killL m σ).b, k := (killL m σ).k } r := by
  have hnd := nodupN_iff hn
  have hrm : r ∉ m := (List.nodup_cons.1 hnd).1
  obtain ⟨h1, h2, h3, h4, h5⟩ := killL_ok m hi
  have hr1 : look (killL m σ).r r = some R := by rw [h5 r hrm]; exact hr
  have hmem : ∀ k ∈ r :: m, look σ.r k ≠ none := fun k hk => by
    rcases List.mem_cons.1 hk with rfl | hk
    · rw [hr]; simp
    · exact hm k hk
  have ht := hi.taken (X := Y) hnd hmem hY
  obtain ⟨_, _, _, g4, g5⟩ := killL_ok (r :: m) hi
  refine ⟨updF F r Y, h1.write2 hr1 hlike (Nat.le_refl _) rfl (fun _ _ _ => rfl) ht.nodup ht.own (fun k R1 hk hl => ht.apart k R1 ?_) hR hH, ?_⟩
  · have hkm : k ∉ m := fun hkm => by rw [h4 k hkm] at hl; cases hl
    rw [g5 k (by simp [hk, hkm])]
    rw [h5 k hkm] at hl; exact hl
  · refine ⟨h2, h3, by rw [look_upd_same hr1]; simp, fun k => ?_, fun k hk => updF_ne _ _ hk, fun b hb => ?_⟩
    · by_cases e : k = r
      · subst e; left; rw [hr, look_upd_same hr1]; exact hlike
      · show LikeO (look σ.r k) (look (upd (killL m σ).r r R') k) ∨ (look σ.r k ≠ none ∧ look (upd (killL m σ).r r R') k = none)
        rw [look_upd_ne e]
        by_cases hk : k ∈ m
        · right; exact ⟨hm k hk, h4 k hk⟩
        · left; rw [h5 k hk]; exact LikeO.refl _
    · rw [updF_same] at hb
      obtain ⟨Z, hZ, hbZ⟩ := List.mem_flatten.1 (hY.mem b hb)
      obtain ⟨k, hk, rfl⟩ := List.mem_map.1 hZ
      refine ⟨k, hmem k hk, hbZ, ?_⟩
      rcases List.mem_cons.1 hk with rfl | hk
      · exact .inl rfl
      · exact .inr (look_upd_iff'.2 (h4 k hk))
theorem joinK_ok (hi : Inv C I β F σ w tm) {kp : List Nat} {r : Nat} {σ' : St} (he : joinK kp σ r = some σ') : ∃ F', Inv C I β F' σ' w tm ∧ Joined F F' σ σ' r := by
  unfold joinK at he
  cases hr : look σ.r r with
  | none => simp [hr] at he
  | some R =>
    have hR := hi.roots r R hr
    have hH := hi.holes r R hr
    have hself : σ = σ' → ∃ F', Inv C I β F' σ' w tm ∧ Joined F F' σ σ' r := by
      rintro rfl
      exact ⟨F, hi, .refl (by rw [hr]; simp)⟩
    cases R with
    | arr f l t xs =>
      simp only [hr, Option.some.injEq] at he
      exact hself he
    | box l t a =>
      simp only [hr] at he
      cases hs : solidK kp t with
      | true => simp only [hs, Option.some.injEq] at he; exact hself he
      | false =>
        simp only [hs] at he
        cases hf : fullT (keepQ kp (fullR σ.r l 9)) t a with
        | none => simp [hf] at he
        | some p =>
          obtain ⟨u, y, m⟩ := p
          simp only [hf] at he
          cases hn : nodupN (r :: m) with
          | false => simp [hn] at he
          | true =>
            simp only [hn, Option.some.injEq] at he
            subst he
            obtain ⟨b, o, arr, E', fr, X', e1, e2, e3, e4, e5⟩ := hR
            obtain ⟨b', arr', E'', fr', g1, g2, g3⟩ := hH
            simp only [List.cons.injEq, and_true] at e1
            rw [g1] at e1
            simp only [Value.pointer.injEq, Option.some.injEq, Addr.mk.injEq, and_true] at e1
            obtain ⟨rfl, rfl⟩ := e1
            rw [g2] at e2
            simp only [Option.some.injEq, Obj.cells.injEq] at e2
            obtain ⟨rfl, rfl, rfl⟩ := e2
            simp only [Bool.and_true, if_true, Bool.not_false, Bool.not_true, Bool.or_self, Bool.or_false] at e4 e5
            have hcs : List.take t.size (List.drop 0 arr'.toList) = arr'.toList := by rw [List.drop_zero, List.take_of_length_le]; rw [Array.length_toList]; omega
            rw [hcs] at e4
            have hq : ∀ k u y m, keepQ kp (fullR σ.r l 9) k = some ⟨u, y, m⟩ → (u = .hole k ∧ m = []) ∨ (look σ.r k ≠ none ∧ u.isAgg = false ∧ (∀ o, holesOf u o = []) ∧ ∃ X, Rep (hpOf w) (Sx C.L I l) false u y [β k] X ∧ Inc X (m.map F).flatten) := by
              intro k u y m hk
              unfold keepQ at hk
              split at hk
              · simp only [Option.some.injEq, FV.mk.injEq] at hk
                obtain ⟨rfl, _, rfl⟩ := hk
                exact .inl ⟨rfl, rfl⟩
              · obtain ⟨k1, k2, k3⟩ := fullR_ok hi 9 k u y m hk
                exact .inr ⟨k1, k2, fullR_noholes 9 k u y m hk, k3⟩
            obtain ⟨Y, q1, q2, q3, q4⟩ := fullK_rep (h := hpOf w) (S := Sx C.L I l) (l := false) (β := β) (ρ := σ.r) (G := fun m => (m.map F).flatten) (flat_app F) rfl hq hf e4 g3
            have hsz : u.size = t.size := q1.len.symm.trans e4.len
            have hmem : ∀ k ∈ m, look σ.r k ≠ none := fullT_mem (fun k u y m hk => by
              unfold keepQ at hk
              split at hk
              · simp only [Option.some.injEq, FV.mk.injEq] at hk
                obtain ⟨_, _, rfl⟩ := hk
                simp
              · exact fullR_mem 9 k u y m hk) hf
            refine joinWrite hi (R' := .box l u y) (Y := b' :: Y) hr q4 hn hmem ?_ ?_ ?_
            · simp only [List.map_cons, List.flatten_cons, e5.1, List.cons_append]
              exact q2.cons
            · refine ⟨b', 0, arr', E'', fr', Y, by rw [g1], g2, by rw [hsz]; exact e3, ?_, ?_⟩
              · rw [hsz, hcs]; exact q1
              · rw [if_pos (by rfl)]; rw [hsz]; exact ⟨rfl, e5.2.1, rfl, e5.2.2.2⟩
            · refine ⟨b', arr', E'', fr', g1, g2, fun p hp hk => q3 p hp fun e => hk (look_upd_iff'.2 ?_)⟩
              obtain ⟨_, _, _, h4, h5⟩ := killL_ok m hi
              by_cases hpm : p.2 ∈ m
              · exact h4 _ hpm
              · rw [h5 _ hpm]; exact e
    | map l kt vt es z =>
      simp only [hr] at he
      cases z with
      | none => simp only [Option.some.injEq] at he; exact hself he
      | some p =>
        obtain ⟨yk, j⟩ := p
        simp only at he
        cases hj : fullR σ.r l 9 j with
        | none => simp [hj] at he
        | some p =>
          obtain ⟨u, x, m⟩ := p
          simp only [hj] at he
          cases hc : cast? (t := u) vt x with
          | none => simp [hc] at he
          | some x2 =>
            cases hn : nodupN (r :: m) with
            | false => simp [hc, hn] at he
            | true =>
              simp only [hc, hn, Option.some.injEq] at he
              subst he
              obtain ⟨rfl, hc2⟩ := cast?_some hc
              have := eq_of_heq hc2
              subst this
              obtain ⟨b, ents, clock, X', e1, e2, e3, e4, e5⟩ := hR
              obtain ⟨j1, j2, Z, j3, j4⟩ := fullR_ok hi 9 j _ _ _ hj
              obtain ⟨b', ents', clock', k1, k2, k3⟩ := hH j1
              rw [e1] at k1
              simp only [Value.map.injEq, Option.some.injEq] at k1
              subst k1
              rw [e2] at k2
              simp only [Option.some.injEq, Obj.map.injEq] at k2
              obtain ⟨rfl, rfl⟩ := k2
              have hwv : β j = wrapV u [β j] := by simp [wrapV, j2]
              rw [hwv] at k3
              obtain ⟨Y, q1, q2⟩ := madj_rm (eq := denEq kt) j3 e4 k3
              refine joinWrite hi (R' := .map l kt u (madj (denEq kt) es yk x) none) (Y := b :: Y) hr trivial hn (fullR_mem 9 j _ _ _ hj) ?_ ⟨b, ents, clock, Y, e1, e2, e3, RM.toZ q1, rfl⟩ trivial
              simp only [List.map_cons, List.flatten_cons, e5, List.cons_append]
              obtain ⟨R, hR'⟩ := q2
              obtain ⟨R2, hR2⟩ := j4
              refine Inc.cons ⟨R ++ R2, ?_⟩
              rw [← List.append_assoc]
              refine (hR'.append_right R2).trans ?_
              rw [List.append_assoc]
              exact hR2.append_left X'
end
end Go.Proofs.YthlpjdjipchdkaaDoor.E

namespace Go.Proofs.YthlpjdjipchdkaaDoor.E
open Go
set_option linter.unusedSimpArgs false
set_option linter.unusedVariables false
structure ApR (h : Hp) (L I : Set') (len : Bool) (t : Ty) (cs : List Value) (X : List Nat) (n : Nat) (A : Apart) (βm : Nat → Value) (Fm : Nat → List Nat) : Prop where
  lay : layB t A.t = true
  agg : A.t.isAgg = t.isAgg
  le : n ≤ A.n
  names : ∀ p ∈ A.l, n ≤ p.1 ∧ p.1 < A.n
  nodup : (A.l.map Prod.fst).Nodup
  roots : ∀ p ∈ A.l, RootR h L I (βm p.1) p.2 (Fm p.1) ∧ ∀ β ρ, RootH h β ρ (βm p.1) p.2
  rep : ∃ Y, Rep h (Sx L I len) false A.t A.a cs Y ∧ (Y ++ ((A.l.map Prod.fst).map Fm).flatten).Perm X
  holes : ∀ p ∈ holesOf A.t 0, p ∈ holesOf t 0 ∨ (p.2 ∈ A.l.map Prod.fst ∧ cs[p.1]? = some (βm p.2))
theorem appR_eq : ∀ a b : List (Nat × Root), appR a b = a ++ b
  | [], _ => rfl
  | x :: a, b => by simp [appR, appR_eq a b]
section
variable {h : Hp} {L I : Set'}
theorem ApR.keep {len : Bool} {t : Ty} {x : den t} {cs : List Value} {X : List Nat} {n : Nat} (hr : Rep h (Sx L I len) false t x cs X) : ApR h L I len t cs X n ⟨t, x, [], n⟩ (fun _ => undef) (fun _ => []) :=
  ⟨layB_refl _, rfl, Nat.le_refl _, by simp, by simp, by simp, ⟨X, hr, by simp⟩, fun p hp => .inl hp⟩
theorem ApR.one {len : Bool} {t : Ty} {v : Value} {X : List Nat} {n : Nat} {R : Root} (ht : layB t (.hole n) = true) (ha : t.isAgg = false) (hv : v.oneCell' = true) (hR : RootR h L I v R X) (hH : ∀ β ρ, RootH h β ρ v R) :
    ApR h L I len t [v] X n ⟨.hole n, (), [(n, R)], n + 1000⟩ (fun _ => v) (fun _ => X) :=
  ⟨ht, ha.symm, by simp, by simp, by simp, by simp; exact ⟨hR, hH⟩, ⟨[], ⟨⟨v, rfl, hv⟩, rfl⟩, by simp⟩, by simp [holesOf]⟩
theorem sl_fix {len : Bool} {t : Ty} {x : List (den t)} {cs : List Value} {X : List Nat} (hr : Rep h (Sx L I len) false (.sl true t) x cs X) : Rep h (Sx L I (len && !t.plain)) false (.sl true t) x cs X := by
  cases hp : t.plain with
  | false => simpa using hr
  | true =>
    obtain ⟨a, c, h1, h2, h3⟩ := hr
    refine ⟨a, c, h1, h2, ?_⟩
    rcases h3 with h3 | ⟨b, o, arr, E, fr, X', e1, e2, e3, e4, e5⟩
    · exact .inl h3
    · exact .inr ⟨b, o, arr, E, fr, X', e1, e2, e3, RL.mono (fun x c X hr => plain_rep hp hr) e4, e5⟩
theorem ref_fix {len : Bool} {t : Ty} {x : den t} {cs : List Value} {X : List Nat} (hr : Rep h (Sx L I len) false (.ref true t) x cs X) : Rep h (Sx L I (len && !t.plain)) false (.ref true t) x cs X := by
  cases hp : t.plain with
  | false => simpa using hr
  | true =>
    obtain ⟨b, o, arr, E, fr, X', e1, e2, e3, e4, e5⟩ := hr
    exact ⟨b, o, arr, E, fr, X', e1, e2, e3, plain_rep hp e4, e5⟩
theorem ref_ptr {len : Bool} {t : Ty} {x : den t} {cs : List Value} {X : List Nat} (hr : Rep h (Sx L I len) false (.ref true t) x cs X) (hs : solid t = true) : ∃ v, cs = [v] ∧ v.oneCell' = true ∧ ∀ β ρ l, RootH h β ρ v (.box l t x) := by
  obtain ⟨b, o, arr, E, fr, X', e1, e2, e3, e4, e5⟩ := hr
  simp only [Bool.and_true, if_true, Bool.not_false] at e5
  obtain ⟨_, _, rfl, _⟩ := e5
  exact ⟨_, e1, rfl, fun β ρ l => ⟨b, arr, E, fr, rfl, e2, Holes.solid hs⟩⟩
theorem apart_rep {R : Type} {len : Bool} : ∀ {t : Ty} {x : den t} {n : Nat} {K : Apart → Option R} {res : R}, apartK len t x n K = some res →
    ∃ A, K A = some res ∧ ∀ {cs : List Value} {X : List Nat}, Rep h (Sx L I len) false t x cs X → ∃ βm Fm, ApR h L I len t cs X n A βm Fm
  | .pair a b, x, n, K, res, he => by
    simp only [apartK] at he
    obtain ⟨⟨t1, a1, l1, n1⟩, h1, k1⟩ := apart_rep he
    simp only at h1
    obtain ⟨⟨t2, a2, l2, n2⟩, h2, k2⟩ := apart_rep h1
    simp only at h2
    refine ⟨_, h2, ?_⟩
    rintro cs X ⟨c1, c2, X1, X2, e1, e2, e3, e4⟩
    obtain ⟨β1, F1, g1⟩ := k1 e3
    obtain ⟨β2, F2, g2⟩ := k2 e4
    have hlen := e3.len
    have n1le := g1.le
    have n2le := g2.le
    simp only at n1le n2le
    have lo1 : ∀ k ∈ l1.map Prod.fst, n ≤ k ∧ k < n1 := fun k hk => by obtain ⟨p, hp, rfl⟩ := List.mem_map.1 hk; exact g1.names p hp
    have lo2 : ∀ k ∈ l2.map Prod.fst, n1 ≤ k ∧ k < n2 := fun k hk => by obtain ⟨p, hp, rfl⟩ := List.mem_map.1 hk; exact g2.names p hp
    have m1 : (l1.map Prod.fst).map (fun k => if k < n1 then F1 k else F2 k) = (l1.map Prod.fst).map F1 := List.map_congr_left fun k hk => if_pos (lo1 k hk).2
    have m2 : (l2.map Prod.fst).map (fun k => if k < n1 then F1 k else F2 k) = (l2.map Prod.fst).map F2 := List.map_congr_left fun k hk => if_neg (by have := lo2 k hk; omega)
    refine ⟨fun k => if k < n1 then β1 k else β2 k, fun k => if k < n1 then F1 k else F2 k, ?_, rfl, by simp only; omega, ?_, ?_, ?_, ?_, ?_⟩
    · simp only [layB, Bool.and_eq_true]; exact ⟨g1.lay, g2.lay⟩
    · intro p hp
      simp only [appR_eq, List.mem_append] at hp ⊢
      rcases hp with hp | hp
      · have := g1.names p hp; try simp only at this
        omega
      · have := g2.names p hp; try simp only at this
        omega
    · simp only [appR_eq, List.map_append]
      refine List.nodup_append.2 ⟨g1.nodup, g2.nodup, fun k hk k' hk' => ?_⟩
      have := lo1 k hk; have := lo2 k' hk'; omega
    · intro p hp
      simp only [appR_eq, List.mem_append] at hp
      rcases hp with hp | hp
      · have := (g1.names p hp).2
        simp only at this
        simp only [if_pos this]
        exact g1.roots p hp
      · have := (g2.names p hp).1
        have hn : ¬ p.1 < n1 := by omega
        simp only [if_neg hn]
        exact g2.roots p hp
    · obtain ⟨Y1, r1, p1⟩ := g1.rep
      obtain ⟨Y2, r2, p2⟩ := g2.rep
      refine ⟨Y1 ++ Y2, ⟨c1, c2, Y1, Y2, e1, rfl, r1, r2⟩, ?_⟩
      simp only [appR_eq, List.map_append, m1, m2, List.flatten_append]
      rw [e2]
      refine List.Perm.trans ?_ (p1.append p2)
      simp only [List.append_assoc]
      refine List.Perm.append_left Y1 ?_
      rw [← List.append_assoc, ← List.append_assoc]
      exact List.Perm.append_right _ List.perm_append_comm
    · intro p hp
      have hl1 : t1.size = a.size := (layB_size g1.lay).symm
      simp only [holesOf, List.mem_append] at hp
      rcases hp with hp | hp
      · rcases g1.holes p hp with hq | ⟨q1, q2⟩
        · left; simp [holesOf, hq]
        · right
          have hk := (lo1 p.2 q1).2
          refine ⟨by simp only [appR_eq, List.map_append, List.mem_append]; exact .inl q1, ?_⟩
          have hlt := (holesOf_lt hp).2
          rw [e1, List.getElem?_append_left (by omega), if_pos hk]
          exact q2
      · rw [holesOf_shift] at hp
        obtain ⟨z, hz, rfl⟩ := List.mem_map.1 hp
        rcases g2.holes z hz with hq | ⟨q1, q2⟩
        · left
          simp only [holesOf, List.mem_append]
          right
          rw [holesOf_shift]
          exact List.mem_map.2 ⟨z, hq, by simp; omega⟩
        · right
          have hk : ¬ z.2 < n1 := by have := (lo2 z.2 q1).1; omega
          refine ⟨by simp only [appR_eq, List.map_append, List.mem_append]; exact .inr q1, ?_⟩
          simp only
          rw [e1, List.getElem?_append_right (by omega), if_neg hk, ← q2]
          congr 1; omega
  | .sl true t, x, n, K, res, he => by
    simp only [apartK] at he
    refine ⟨_, he, ?_⟩
    rintro cs X ⟨a, c, rfl, h2⟩
    exact ⟨_, _, .one rfl rfl rfl ⟨sl_fix ⟨a, c, rfl, h2⟩, by simp⟩ (fun _ _ => trivial)⟩
  | .ref true t, x, n, K, res, he => by
    simp only [apartK] at he
    split at he
    · rename_i hs
      refine ⟨_, he, ?_⟩
      intro cs X hr
      obtain ⟨v, rfl, h2, h3⟩ := ref_ptr hr hs
      exact ⟨_, _, .one rfl rfl h2 (ref_fix hr) (fun β ρ => h3 β ρ _)⟩
    · simp at he
  | .map true k v, x, n, K, res, he => by
    simp only [apartK] at he
    refine ⟨_, he, ?_⟩
    rintro cs X ⟨b, ents, clock, X', rfl, h2, hB, h3, hx⟩
    simp only [Bool.and_true, if_true, Bool.not_false] at hx
    subst hx
    refine ⟨_, _, .one rfl rfl rfl ⟨b, ents, clock, X', rfl, h2, hB, ?_, rfl⟩ (fun _ _ => trivial)⟩
    cases hp : (k.plain && v.plain) with
    | false => simp only [Bool.not_false, Bool.and_true]; exact RM.toZ h3
    | true =>
      simp only [Bool.and_eq_true] at hp
      exact RM.toZ (RM.mono_mem (fun x c hr => plain_rep hp.1 hr) (fun x c Y _ hr => plain_rep hp.2 hr) h3)
  | .ptr true t, x, n, K, res, he => by
    simp only [apartK] at he
    split at he
    · rename_i hs
      cases x with
      | none =>
        simp only [br, Option.isSome_none, cond_false] at he
        refine ⟨_, he, ?_⟩
        rintro cs X ⟨rfl, rfl⟩
        exact ⟨fun _ => undef, fun _ => [], rfl, rfl, Nat.le_refl _, by simp, by simp, by simp, ⟨[], ⟨rfl, rfl⟩, by simp⟩, by simp [holesOf]⟩
      | some y =>
        simp only [br, Option.isSome_some, cond_true, Option.getD_some] at he
        refine ⟨_, he, ?_⟩
        intro cs X hr
        have hr' : Rep h (Sx L I len) false (.ref true t) y cs X := hr
        obtain ⟨v, rfl, h2, h3⟩ := ref_ptr hr' hs
        exact ⟨_, _, .one rfl rfl h2 (ref_fix hr') (fun β ρ => h3 β ρ _)⟩
    · simp at he
  | .sl false t, x, n, K, res, he | .ref false t, x, n, K, res, he | .map false _ _, x, n, K, res, he | .ptr false t, x, n, K, res, he
  | .int _, x, n, K, res, he | .bool, x, n, K, res, he | .str, x, n, K, res, he | .unit, x, n, K, res, he | .arr _ _, x, n, K, res, he
  | .hole _, x, n, K, res, he | .raw _ _, x, n, K, res, he | .nils, x, n, K, res, he | .nilp, x, n, K, res, he => by
    simp only [apartK] at he
    exact ⟨_, he, fun hr => ⟨_, _, .keep hr⟩⟩
end
def killFL : List (Nat × Root) → SV → SV
  | [], sv => sv
  | (n, _) :: l, sv => killFL l (killF n sv)
theorem killFL_x : ∀ m : List (Nat × Root), killFL m .x = .x
  | [] => rfl
  | (n, _) :: m => by simp [killFL, killF_x, killFL_x m]
theorem killFL_sub : ∀ {m : List (Nat × Root)} {k : Nat} {sv : SV}, (killFL m sv).uses k = true → sv.uses k = true
  | [], _, _, h => h
  | (n, _) :: m, k, sv, h => killF_sub (killFL_sub (m := m) h)
theorem killFL_uses : ∀ {m : List (Nat × Root)} {k : Nat} {sv : SV}, k ∈ m.map Prod.fst → (killFL m sv).uses k = false
  | (n, R) :: m, k, sv, hk => by
    simp only [List.map_cons, List.mem_cons] at hk
    simp only [killFL]
    by_cases hm : k ∈ m.map Prod.fst
    · exact killFL_uses hm
    · rcases hk with rfl | hk
      · cases e : (killFL m (killF k sv)).uses k with
        | false => rfl
        | true =>
          have := killFL_sub (m := m) e
          rw [killF_uses] at this; cases this
      · exact (hm hk).elim
theorem killFL_imp {h L I β ρ v} : ∀ {m : List (Nat × Root)} {sv : SV}, SVR h L I β ρ sv v → SVR h L I β ρ (killFL m sv) v
  | [], _, hs => hs
  | (n, _) :: m, sv, hs => killFL_imp (m := m) (killF_imp hs)
theorem mapK_mapK (f g : SV → SV) : ∀ l, mapK f (mapK g l) = mapK (fun sv => f (g sv)) l
  | [] => rfl
  | t :: l => by
    have : ∀ t : List (Nat × SV), mapT f (mapT g t) = mapT (fun sv => f (g sv)) t := by
      intro t
      induction t with
      | nil => rfl
      | cons p t ih => obtain ⟨k, v⟩ := p; simp [mapT, ih]
    simp [mapK, this, mapK_mapK f g l]
structure Added (m : List (Nat × Root)) (σ σ' : St) : Prop where
  new : ∀ p ∈ m, look σ'.r p.1 = some p.2
  old : ∀ k, k ∉ m.map Prod.fst → look σ'.r k = look σ.r k
  n : σ'.n = σ.n
  b : σ'.b = σ.b
  t : ∀ i, find σ'.t i = killFL m (find σ.t i)
  k : σ'.k = mapK (killFL m) σ.k
  c : ∀ q ∈ σ'.c, m = [] ∧ q ∈ σ.c
  free : ∀ k R, k ∉ m.map Prod.fst → look σ.r k = some R → ∀ n ∈ m.map Prod.fst, R.holes n = false
theorem addRoots_ok : ∀ {m : List (Nat × Root)} {σ σ' : St}, addRoots m σ = some σ' → (m.map Prod.fst).Nodup → Added m σ σ'
  | [], σ, σ', h, _ => by
    simp only [addRoots, Option.some.injEq] at h
    subst h
    exact ⟨by simp, fun _ _ => rfl, rfl, rfl, fun _ => rfl, (mapK_id _).symm, fun q hq => ⟨rfl, hq⟩, by simp⟩
  | (n, R) :: m, σ, σ', h, hnd => by
    simp only [addRoots] at h
    split at h
    · rename_i hf
      simp only [List.map_cons] at hnd
      obtain ⟨hn1, hn2⟩ := List.nodup_cons.1 hnd
      have ih := addRoots_ok h hn2
      refine ⟨?_, ?_, ih.n, ih.b, ?_, ?_, ?_, ?_⟩
      · intro p hp
        rcases List.mem_cons.1 hp with rfl | hp
        · rw [ih.old _ hn1]; exact look_cons_same
        · exact ih.new p hp
      · intro k hk
        simp only [List.map_cons, List.mem_cons, not_or] at hk
        rw [ih.old k hk.2]
        simp only [St.new]
        rw [look_cons_ne hk.1, look_del_ne hk.1]
      · intro i
        rw [ih.t i]
        simp only [St.new, killFL]
        rw [find_mapT (killF_x n)]
      · rw [ih.k]
        simp only [St.new]
        rw [mapK_mapK]
        rfl
      · intro q hq
        have := (ih.c q hq).2
        simp [St.new] at this
      · intro k R' hk hl j hj
        simp only [List.map_cons, List.mem_cons, not_or] at hk
        simp only [List.map_cons, List.mem_cons] at hj
        rcases hj with rfl | hj
        · exact freeN_ok hf hl
        · refine ih.free k R' hk.2 ?_ j hj
          simp only [St.new]
          rw [look_cons_ne hk.1, look_del_ne hk.1]; exact hl
    · simp at h
theorem flat_apart {F : Nat → List Nat} : ∀ {ns : List Nat}, (ns.map F).flatten.Nodup → ∀ {k k' : Nat}, k ∈ ns → k' ∈ ns → k ≠ k' → ∀ b ∈ F k, b ∉ F k'
  | a :: ns, h, k, k', hk, hk', hne, b, hb => by
    simp only [List.map_cons, List.flatten_cons] at h
    obtain ⟨h1, h2, h3⟩ := List.nodup_append.1 h
    rcases List.mem_cons.1 hk with e1 | g1 <;> rcases List.mem_cons.1 hk' with e2 | g2
    · exact (hne (e1.trans e2.symm)).elim
    · intro hb'
      exact h3 b (e1 ▸ hb) b (List.mem_flatten.2 ⟨F k', List.mem_map.2 ⟨k', g2, rfl⟩, hb'⟩) rfl
    · intro hb'
      exact h3 b (e2 ▸ hb') b (List.mem_flatten.2 ⟨F k, List.mem_map.2 ⟨k, g1, rfl⟩, hb⟩) rfl
    · exact flat_apart h2 g1 g2 hne b hb
section
variable {C : Ctx} {I : Set'} {β : Nat → Value} {F : Nat → List Nat} {σ : St} {w : World} {tm : Array Value}
theorem Inv.many (hi : Inv C I β F σ w tm) {m : List (Nat × Root)} {σ' : St} (ha : Added m σ σ') {β' : Nat → Value} {F' : Nat → List Nat} {ρ' : List (Nat × Root)}
    (hold : ∀ k, k ∉ m.map Prod.fst → Same β β' σ.r ρ' k)
    (hR : ∀ k R, look ρ' k = some R → RootOk C I β' ρ' w (β' k) R (F' k))
    (hd : ∀ r r' R R', r ≠ r' → look ρ' r = some R → look ρ' r' = some R' → ∀ b ∈ F' r, b ∉ F' r') :
    Inv C I β' F' { t := σ'.t, c := σ'.c, r := ρ', n := σ'.n, b := σ'.b, k := σ'.k } w tm := by
  refine hi.turn (f := killFL m) (killFL_x m) ha.n ha.t ha.k (fun k e u v hm => ?_) (Nat.le_refl _) rfl (fun _ h => h) (fun _ h => .inl h) (fun _ _ _ => rfl) (fun sv v hs => ?_) hR hd
  · obtain ⟨rfl, h⟩ := ha.c _ hm
    exact ⟨v, h, rfl⟩
  · refine SVR.mono (fun b hb => ⟨hb, rfl⟩) (fun _ _ => rfl) (fun r hr => hold r fun hm => ?_) (killFL_imp (m := m) hs)
    rw [killFL_uses hm] at hr; cases hr
end
end Go.Proofs.YthlpjdjipchdkaaDoor.E

namespace Go.Proofs.YthlpjdjipchdkaaDoor.E
open Go
set_option linter.unusedSimpArgs false
set_option linter.unusedVariables false
theorem notIn_iff {r : Nat} : ∀ {m : List (Nat × Root)}, notIn r m = true → r ∉ m.map Prod.fst
  | [], _ => by simp
  | (k, _) :: m, h => by
    simp only [notIn, Bool.and_eq_true, Bool.not_eq_true'] at h
    simp only [List.map_cons, List.mem_cons, not_or]
    refine ⟨fun e => ?_, notIn_iff h.2⟩
    rw [e, Nat.beq_refl] at h; cases h.1
theorem flat_one {F : Nat → List Nat} : ∀ {ns : List Nat}, (ns.map F).flatten.Nodup → ∀ {k : Nat}, k ∈ ns → (F k).Nodup
  | a :: ns, h, k, hk => by
    simp only [List.map_cons, List.flatten_cons] at h
    obtain ⟨h1, h2, _⟩ := List.nodup_append.1 h
    rcases List.mem_cons.1 hk with e | g
    · rw [e]; exact h1
    · exact flat_one h2 g
open Classical in
noncomputable def mix {α : Type} (m : List (Nat × Root)) (fm f : Nat → α) : Nat → α := fun k => if k ∈ m.map Prod.fst then fm k else f k
theorem mix_in {α : Type} {m : List (Nat × Root)} {fm f : Nat → α} {k : Nat} (h : k ∈ m.map Prod.fst) : mix m fm f k = fm k := by unfold mix; rw [if_pos h]
theorem mix_out {α : Type} {m : List (Nat × Root)} {fm f : Nat → α} {k : Nat} (h : k ∉ m.map Prod.fst) : mix m fm f k = f k := by unfold mix; rw [if_neg h]
section
variable {C : Ctx} {I : Set'} {β : Nat → Value} {F : Nat → List Nat} {σ : St} {w : World} {tm : Array Value}
theorem Added.cases {m : List (Nat × Root)} {σ σ' : St} (ha : Added m σ σ') {k : Nat} {R : Root} (hl : look σ'.r k = some R) : (∃ p ∈ m, p.1 = k ∧ p.2 = R) ∨ (k ∉ m.map Prod.fst ∧ look σ.r k = some R) := by
  by_cases hm : k ∈ m.map Prod.fst
  · obtain ⟨p, hp, rfl⟩ := List.mem_map.1 hm
    have := ha.new p hp
    rw [hl] at this
    exact .inl ⟨p, hp, rfl, (Option.some.inj this).symm⟩
  · right
    exact ⟨hm, by rw [← ha.old k hm]; exact hl⟩
theorem Added.same {m : List (Nat × Root)} {σ σ' : St} (ha : Added m σ σ') (βm : Nat → Value) {k : Nat} (hk : k ∉ m.map Prod.fst) : Same β (mix m βm β) σ.r σ'.r k := by
  simp only [Same, ha.old k hk]
  exact ⟨LikeO.refl _, fun _ => mix_out hk⟩
theorem loadK_ok {R : Type} (hi : Inv C I β F σ w tm) {d : Option Nat} {t : TypeId} {a : SV} {va : Value} {K : SV → St → Option R} {res : R} (hs : SVR (hpOf w) C.L I β σ.r a va) (he : loadK C.T d t a σ K = some res) :
    ∃ σ' sv v β' F', K sv σ' = some res ∧ (Instr.loadAt t va).run C.P w = .ok v w ∧ Inv C I β' F' σ' w tm ∧ SVR (hpOf w) C.L I β' σ'.r sv v := by
  unfold loadK at he
  split at he
  · rename_i r s d
    split at he
    · rename_i l t0 x0 hr
      split at he
      · rename_i oo τ x hg
        split at he
        · rename_i hf
          have hroot := hi.root hr
          obtain ⟨R, o, u0, b, base, arr, E', fr, h1, h2, h3, rfl, h5, h6, h7, h8, h9, h10⟩ := place hi hs
          rw [hr] at h1
          obtain rfl := Option.some.inj h1
          obtain ⟨hβ, rfl, hsz⟩ := h9 l t0 x0 rfl
          obtain ⟨q1, q2, _, hH, Y1, hY1, hY⟩ := h10 l ⟨oo, τ, x⟩ (by simp [Root.get, hg])
          subst q1; subst q2
          simp only [Nat.zero_add] at hH hY h8
          obtain ⟨b1, ob, arr1, E1, fr1, X', e1, e2, e3, e4, e5⟩ := hroot.rep
          simp only [Bool.and_true, if_true, Bool.not_false] at e5
          obtain ⟨f1, f2, rfl, f4⟩ := e5
          rw [hβ] at e1
          simp only [List.cons.injEq, and_true, Value.pointer.injEq, Option.some.injEq, Addr.mk.injEq] at e1
          subst e1
          rw [h5] at e2
          simp only [Option.some.injEq, Obj.cells.injEq] at e2
          obtain ⟨rfl, rfl, rfl⟩ := e2
          have hall : (arr.toList.drop 0).take t0.size = arr.toList := by rw [List.drop_zero, List.take_of_length_le (by simp [f4])]
          simp only [Bool.not_true, Bool.or_self, Bool.or_false] at e4
          rw [hall] at e4
          have hok : selOk s t0 := h3
          obtain ⟨⟨u, y, m, nn⟩, hK, hap⟩ := apart_rep (h := hpOf w) (L := C.L) (I := I) he
          simp only at hK
          split at hK
          · rename_i hcn
            simp only [Bool.and_eq_true] at hcn
            have hrm := notIn_iff hcn.2
            split at hK
            · rename_i t' x' hput
              split at hK
              · rename_i σ1 hadd
                obtain ⟨o', a', k1, k2, k3, k4, k5⟩ := selPut_rep (h := hpOf w) (S := Sx C.L I l) hput
                have hso := selGet_off s t0 x0 _ hg
                rw [hso] at k1
                simp only [Option.some.injEq, Prod.mk.injEq] at k1
                obtain ⟨rfl, rfl⟩ := k1
                obtain ⟨A0, Y0, B0, m1, m2, m3⟩ := k5 false arr.toList X' hok e4
                have m2 := m2 _ hg
                simp only at m2
                obtain ⟨βm, Fm, hA⟩ := hap m2
                have hAd := addRoots_ok hadd hA.nodup
                obtain ⟨Yu, ru, pu⟩ := hA.rep
                simp only at ru pu
                obtain ⟨rfl, ru'⟩ := calm_rep hcn.1 ru
                simp only [List.nil_append] at pu
                have hau := layB_size k2
                have htz : t0.size = t'.size := layB_size k3
                have hle : oo + τ.size ≤ t0.size := selOff_le hso hok
                have m4 := m3 _ [] ru
                have ecells : arr.toList.take oo ++ (arr.toList.drop oo).take τ.size ++ arr.toList.drop (oo + τ.size) = arr.toList := by
                  rw [List.append_assoc]
                  have : (arr.toList.drop oo).take τ.size ++ arr.toList.drop (oo + τ.size) = arr.toList.drop oo := by
                    rw [← List.drop_drop, List.take_append_drop]
                  rw [this, List.take_append_drop]
                rw [ecells] at m4
                have hβr : mix m βm β r = β r := mix_out hrm
                have hnd := hroot.nodup
                rw [f1] at hnd
                obtain ⟨hb1, hX'⟩ := List.nodup_cons.1 hnd
                rw [m1] at hX'
                have hY0F : ∀ k ∈ Y0, k ∈ F r := fun k hk => by rw [f1, m1]; simp [hk]
                have hFm : ∀ p ∈ m, ∀ k ∈ Fm p.1, k ∈ Y0 := fun p hp k hk => pu.mem_iff.1 (List.mem_flatten.2 ⟨Fm p.1, List.mem_map.2 ⟨p.1, List.mem_map.2 ⟨p, hp, rfl⟩, rfl⟩, hk⟩)
                have hY0nd : Y0.Nodup := (List.nodup_append.1 (List.nodup_append.1 hX').1).2.1
                have hFnd : ((m.map Prod.fst).map Fm).flatten.Nodup := pu.nodup_iff.2 hY0nd
                let F' : Nat → List Nat := mix m Fm (updF F r (b :: (A0 ++ B0)))
                have hF'm : ∀ p ∈ m, F' p.1 = Fm p.1 := fun p hp => mix_in (List.mem_map.2 ⟨p, hp, rfl⟩)
                have hF'r : F' r = b :: (A0 ++ B0) := by show mix m Fm _ r = _; rw [mix_out hrm, updF_same]
                have hF'o : ∀ k, k ∉ m.map Prod.fst → k ≠ r → F' k = F k := fun k hk hne => by show mix m Fm _ k = _; rw [mix_out hk, updF_ne _ _ hne]
                have hlr : look σ1.r r = some (.box l t0 x0) := by rw [hAd.old r hrm]; exact hr
                have hcase : ∀ {k R}, look (upd σ1.r r (.box l t' x')) k = some R → (k = r ∧ R = .box l t' x') ∨ (k ≠ r ∧ ∃ p ∈ m, p.1 = k ∧ p.2 = R) ∨ (k ≠ r ∧ k ∉ m.map Prod.fst ∧ look σ.r k = some R) := by
                  intro k R hl
                  by_cases hkr : k = r
                  · subst hkr
                    rw [look_upd_same hlr] at hl
                    exact .inl ⟨rfl, (Option.some.inj hl).symm⟩
                  · rw [look_upd_ne hkr] at hl
                    rcases hAd.cases hl with h | h
                    · exact .inr (.inl ⟨hkr, h⟩)
                    · exact .inr (.inr ⟨hkr, h⟩)
                have hback : ∀ k, k ∉ m.map Prod.fst → look (upd σ1.r r (.box l t' x')) k ≠ none → look σ.r k ≠ none := by
                  intro k hk hl e
                  exact hl (look_upd_iff'.2 (by rw [hAd.old k hk]; exact e))
                have hsame : ∀ k, k ∉ m.map Prod.fst → Same β (mix m βm β) σ.r (upd σ1.r r (.box l t' x')) k := by
                  intro k hk
                  by_cases hkr : k = r
                  · subst hkr
                    simp only [Same, hr, look_upd_same hlr]
                    exact ⟨k3, fun _ => mix_out hk⟩
                  · simp only [Same, look_upd_ne hkr]
                    exact hAd.same βm hk
                have hholes : ∀ p ∈ holesOf t0 0, p.2 ∉ m.map Prod.fst := fun p hp hm => by
                  have := hAd.free r _ hrm hr p.2 hm
                  simp only [Root.holes] at this
                  rw [holeIn_iff.2 ⟨p, hp, rfl⟩] at this; cases this
                have hHu : Holes (mix m βm β) (upd σ1.r r (.box l t' x')) u ((arr.toList.drop oo).take τ.size) := by
                  intro p hp hl
                  rcases hA.holes p hp with h | ⟨h, h'⟩
                  · have hz : (p.1 + oo, p.2) ∈ holesOf t0 0 := selGet_holes hg _ (by rw [holesOf_shift]; exact List.mem_map.2 ⟨p, h, rfl⟩)
                    have hpm := hholes _ hz
                    simp only at hpm
                    rw [mix_out hpm]
                    exact hH p h (hback p.2 hpm hl)
                  · rw [mix_in h]; exact h'
                have hinv : Inv C I (mix m βm β) F' { t := σ1.t, c := σ1.c, r := upd σ1.r r (.box l t' x'), n := σ1.n, b := σ1.b, k := σ1.k } w tm := by
                  refine hi.many hAd hsame ?_ ?_
                  · intro k R hl
                    rcases hcase hl with ⟨rfl, rfl⟩ | ⟨_, p, hp, rfl, rfl⟩ | ⟨hkr, hkm, hl⟩
                    · rw [hβr, hF'r, hβ]
                      refine ⟨⟨b, 0, arr, E', fr, A0 ++ B0, rfl, h5, by omega, ?_, ?_⟩, ⟨b, arr, E', fr, rfl, h5, fun p hp hl' => ?_⟩, ?_, ?_⟩
                      · have hall' : (arr.toList.drop 0).take t'.size = arr.toList := by rw [List.drop_zero, List.take_of_length_le (by simp [f4, htz])]
                        simp only [Bool.not_true, Bool.or_self, Bool.or_false]
                        rw [hall']
                        simpa using m4
                      · rw [if_pos (by rfl)]; exact ⟨rfl, f2, rfl, by omega⟩
                      · rcases k4 hok p hp with ⟨g1, _⟩ | g1
                        · have hpm := hholes _ g1
                          rw [mix_out hpm]
                          have := hroot.holes
                          obtain ⟨b2, arr2, E2, fr2, v1, v2, v3⟩ := this
                          rw [hβ] at v1
                          simp only [Value.pointer.injEq, Option.some.injEq, Addr.mk.injEq, and_true] at v1
                          subst v1
                          rw [h5] at v2
                          simp only [Option.some.injEq, Obj.cells.injEq] at v2
                          obtain ⟨rfl, rfl, rfl⟩ := v2
                          exact v3 p g1 (hback p.2 hpm hl')
                        · rw [holesOf_shift] at g1
                          obtain ⟨q, hq, rfl⟩ := List.mem_map.1 g1
                          have := hHu q hq hl'
                          have hlt := (holesOf_lt hq).2
                          rw [List.getElem?_take, if_pos (by omega), List.getElem?_drop] at this
                          rw [← this]; congr 1; simp only; omega
                      · refine List.nodup_cons.2 ⟨fun hm => hb1 ?_, ?_⟩
                        · rw [m1]
                          rcases List.mem_append.1 hm with h | h <;> simp [h]
                        · refine hX'.sublist ?_
                          rw [List.append_assoc]
                          exact List.Sublist.append (List.Sublist.refl _) (List.sublist_append_right _ _)
                      · intro k hk
                        refine hroot.own k ?_
                        rw [f1, m1]
                        simp only [List.mem_cons, List.mem_append] at hk ⊢
                        rcases hk with h | h | h <;> simp [h]
                    · have hpm : p.1 ∈ m.map Prod.fst := List.mem_map.2 ⟨p, hp, rfl⟩
                      rw [hF'm p hp, mix_in hpm]
                      obtain ⟨g1, g2⟩ := hA.roots p hp
                      refine ⟨g1, g2 _ _, ?_, fun k hk => hroot.own k (hY0F k (hFm p hp k hk))⟩
                      exact flat_one hFnd hpm
                    · rw [mix_out hkm, hF'o k hkm hkr]
                      have h1 := hi.root hl
                      refine ⟨h1.rep, h1.holes.keep (fun _ _ => rfl) h1.rep (fun j hj => hsame j fun hjm => ?_), h1.nodup, h1.own⟩
                      rw [hAd.free k R hkm hl j hjm] at hj; cases hj
                  · -- no block twice
                    have hin : ∀ {k R}, look (upd σ1.r r (.box l t' x')) k = some R → ∀ b' ∈ F' k, (b' ∈ F r ∧ (k = r ∨ k ∈ m.map Prod.fst)) ∨ (k ≠ r ∧ k ∉ m.map Prod.fst ∧ look σ.r k = some R ∧ b' ∈ F k) := by
                      intro k R hl b' hb'
                      rcases hcase hl with ⟨rfl, rfl⟩ | ⟨_, p, hp, rfl, rfl⟩ | ⟨hkr, hkm, hl⟩
                      · rw [hF'r] at hb'
                        left
                        refine ⟨?_, .inl rfl⟩
                        rw [f1, m1]
                        simp only [List.mem_cons, List.mem_append] at hb' ⊢
                        rcases hb' with h | h | h <;> simp [h]
                      · rw [hF'm p hp] at hb'
                        exact .inl ⟨hY0F b' (hFm p hp b' hb'), .inr (List.mem_map.2 ⟨p, hp, rfl⟩)⟩
                      · rw [hF'o k hkm hkr] at hb'
                        exact .inr ⟨hkr, hkm, hl, hb'⟩
                    intro k k' R R' hne hl hl' b' hb' hb2
                    rcases hin hl b' hb' with ⟨c1, c2⟩ | ⟨c1, c2, c3, c4⟩ <;> rcases hin hl' b' hb2 with ⟨d1, d2⟩ | ⟨d1, d2, d3, d4⟩
                    · -- both come from the root
                      have hdis : ∀ p ∈ m, b' ∈ Fm p.1 → b' ∉ b :: (A0 ++ B0) := by
                        intro p hp hbp hmem
                        have hy0 := hFm p hp b' hbp
                        rcases List.mem_cons.1 hmem with rfl | hmem
                        · exact hb1 (by rw [m1]; simp [hy0])
                        · obtain ⟨n1, n2, n3⟩ := List.nodup_append.1 hX'
                          obtain ⟨n4, n5, n6⟩ := List.nodup_append.1 n1
                          rcases List.mem_append.1 hmem with h | h
                          · exact n6 b' h b' hy0 rfl
                          · exact n3 b' (by simp [hy0]) b' h rfl
                      rcases c2 with rfl | c2 <;> rcases d2 with rfl | d2
                      · exact hne rfl
                      · obtain ⟨p, hp, rfl⟩ := List.mem_map.1 d2
                        rw [hF'm p hp] at hb2
                        rw [hF'r] at hb'
                        exact hdis p hp hb2 hb'
                      · obtain ⟨p, hp, rfl⟩ := List.mem_map.1 c2
                        rw [hF'm p hp] at hb'
                        rw [hF'r] at hb2
                        exact hdis p hp hb' hb2
                      · have e1 : F' k = Fm k := mix_in c2
                        have e2 : F' k' = Fm k' := mix_in d2
                        rw [e1] at hb'; rw [e2] at hb2
                        exact flat_apart hFnd c2 d2 hne b' hb' hb2
                    · exact hi.disj k' r _ _ d1 d3 hr b' d4 c1
                    · exact hi.disj k r _ _ c1 c3 hr b' c4 d1
                    · exact hi.disj k k' _ _ hne c3 d3 b' c4 d4
                refine ⟨_, _, wrapV τ ((arr.toList.drop oo).take τ.size), _, F', hK, ?_, hinv, ?_⟩
                · simp only [Nat.zero_add, Instr.loadAt, Instr.sureAddr, Sem.run_bind, Sem.run_pure, Result.andThen_ok, run_load_var hf h5 h8 m2]
                · have := resSV_ok (β := mix m βm β) (ρ := upd σ1.r r (.box l t' x')) hinv.ptr0 ru' hHu
                  have eagg : u.isAgg = τ.isAgg := hA.agg
                  simpa [wrapV, eagg] using this
              · simp at hK
            · simp at hK
          · simp at hK
        · simp at he
      · simp at he
    · simp at he
  · simp at he
end
end Go.Proofs.YthlpjdjipchdkaaDoor.E

namespace Go.Proofs.YthlpjdjipchdkaaDoor.E
open Go
set_option linter.unusedSimpArgs false
set_option linter.unusedVariables false
theorem flat_noholes : ∀ {t : Ty} {o : Nat}, t.flat = true → holesOf t o = []
  | .pair a b, o, h => by
    simp only [Ty.flat, Bool.and_eq_true] at h
    simp [holesOf, flat_noholes h.1, flat_noholes h.2]
  | .hole _, _, h => by simp [Ty.flat] at h
  | .int _, _, _ | .bool, _, _ | .str, _, _ | .unit, _, _ | .arr _ _, _, _ | .sl _ _, _, _ | .ptr _ _, _, _ | .ref _ _, _, _ | .map _ _ _, _, _ | .raw _ _, _, _ | .nils, _, _ | .nilp, _, _ => rfl
theorem resSV_low {ρ : List (Nat × Root)} {l : Bool} {t : Ty} {a : den t} : (resSV ρ l t a).low = resSV ρ l t a := by
  cases t with
  | hole k =>
    simp only [resSV, holeSV]
    cases look ρ k with
    | none => rfl
    | some R => cases R <;> rfl
  | _ => rfl
theorem resSV_uses {ρ : List (Nat × Root)} {l : Bool} {t : Ty} {a : den t} {r : Nat} (h : (resSV ρ l t a).uses r = true) : holeIn r t = true := by
  cases t with
  | hole k =>
    simp only [resSV, holeSV] at h
    cases hl : look ρ k with
    | none => simp [hl, SV.uses, SV.uses0] at h
    | some R => rw [hl] at h; cases R <;> simpa [SV.uses, SV.uses0, holeIn] using h
  | nilp => simp [resSV, SV.uses, SV.uses0] at h
  | nils => simp [resSV, SV.uses, SV.uses0] at h
  | _ => simpa [resSV, mkv, SV.uses, SV.uses0] using h
def RetsR (h : Hp) (S : Set') : (rs : List Ty) → denL rs → List Value → List (List Nat) → Prop
  | [], _, [], [] => True
  | τ :: rs, (a, r), v :: vs, X :: Xs => (∃ cs, Rep h S false τ a cs X ∧ v = wrapV τ cs) ∧ RetsR h S rs r vs Xs
  | _, _, _, _ => False
def tupleV : List Value → Value
  | [v] => v
  | l => .tuple l.toArray
theorem tupV_ok {h : Hp} {L I : Set'} {β : Nat → Value} {ρ : List (Nat × Root)} : ∀ {l : List SV} {vals : List Value}, All2 (SVR0 h L I β ρ) l vals → SVR h L I β ρ (tupV l) (tupleV vals)
  | [], [], _ => ⟨[], rfl, trivial⟩
  | [sv], [v], ⟨h, _⟩ => SVR_of0 h
  | a :: b :: l, v :: u :: vs, h => ⟨v :: u :: vs, rfl, h⟩
  | [], _ :: _, h | _ :: _, [], h => h.elim
  | [_], _ :: _ :: _, ⟨_, h⟩ => h.elim
  | _ :: _ :: _, [_], ⟨_, h⟩ => h.elim
section
variable {C : Ctx} {I : Set'} {β : Nat → Value} {F : Nat → List Nat} {σ : St} {w : World} {tm : Array Value}
theorem retK_ok {R : Type} (hi : Inv C I β F σ w tm) {τ : Ty} {a : den τ} {n : Nat} {K : SV → St → Option R} {res : R} {cs : List Value} {X : List Nat} (he : retK τ a n σ K = some res)
    (hr : Rep (hpOf w) (Sx C.L I false) false τ a cs X) (hX : Taken C I F σ w X) :
    ∃ σ' sv β' F', K sv σ' = some res ∧ Inv C I β' F' σ' w tm ∧ SVR0 (hpOf w) C.L I β' σ'.r sv (wrapV τ cs) ∧ σ'.n = σ.n ∧ σ'.b = σ.b ∧ (∀ r, sv.uses0 r = true → r < n + 10000) ∧
      (∀ k, (k < n ∨ n + 10000 ≤ k) → Same β β' σ.r σ'.r k) ∧ (∀ X2, Taken C I F σ w X2 → (∀ b ∈ X, b ∉ X2) → Taken C I F' σ' w X2) := by
  unfold retK at he
  split at he
  · rename_i hf
    obtain ⟨rfl, hr'⟩ := Rep.flat hf hr
    refine ⟨σ, _, β, F, he, hi, ⟨cs, hr', rfl, fun p hp => by rw [flat_noholes hf] at hp; exact absurd hp (by simp)⟩, rfl, rfl, fun r hu => ?_, fun k _ => Same.refl k, fun X2 h _ => h⟩
    simp only [SV.uses0] at hu
    obtain ⟨p, hp, _⟩ := (holeIn_iff (o := 0)).1 hu
    rw [flat_noholes hf] at hp
    exact absurd hp (by simp)
  · obtain ⟨⟨u, y, m, nn⟩, hK, hap⟩ := apart_rep (h := hpOf w) (L := C.L) (I := I) he
    simp only at hK
    split at hK
    · rename_i hcn
      simp only [Bool.and_eq_true] at hcn
      obtain ⟨hcalm, hle, hsol⟩ := hcn
      have hle : nn ≤ n + 10000 := Nat.le_of_ble_eq_true hle
      split at hK
      · rename_i σ1 hadd
        obtain ⟨βm, Fm, hA⟩ := hap hr
        have hAd := addRoots_ok hadd hA.nodup
        obtain ⟨Yu, ru, pu⟩ := hA.rep
        simp only at ru pu
        obtain ⟨rfl, ru'⟩ := calm_rep hcalm ru
        simp only [List.nil_append] at pu
        have hnames : ∀ k ∈ m.map Prod.fst, n ≤ k ∧ k < n + 10000 := fun k hk => by
          obtain ⟨p, hp, rfl⟩ := List.mem_map.1 hk
          have := hA.names p hp
          simp only at this
          omega
        have hFm : ∀ k ∈ m.map Prod.fst, ∀ b ∈ Fm k, b ∈ X := fun k hk b hb => pu.mem_iff.1 (List.mem_flatten.2 ⟨Fm k, List.mem_map.2 ⟨k, hk, rfl⟩, hb⟩)
        have hFnd : ((m.map Prod.fst).map Fm).flatten.Nodup := pu.nodup_iff.2 hX.nodup
        have hHu : Holes (mix m βm β) σ1.r u cs := by
          intro p hp hl
          rcases hA.holes p hp with h | ⟨h, h'⟩
          · rw [solid_iff hsol] at h
            exact absurd h (by simp)
          · rw [mix_in h]; exact h'
        have hinv : Inv C I (mix m βm β) (mix m Fm F) σ1 w tm := by
          refine hi.many hAd (fun k hk => hAd.same βm hk) ?_ ?_
          · intro k R hl
            rcases hAd.cases hl with ⟨p, hp, rfl, rfl⟩ | ⟨hkm, hl⟩
            · have hpm : p.1 ∈ m.map Prod.fst := List.mem_map.2 ⟨p, hp, rfl⟩
              rw [mix_in hpm, mix_in hpm]
              obtain ⟨g1, g2⟩ := hA.roots p hp
              exact ⟨g1, g2 _ _, flat_one hFnd hpm, fun b hb => hX.own b (hFm _ hpm b hb)⟩
            · rw [mix_out hkm, mix_out hkm]
              have h1 := hi.root hl
              refine ⟨h1.rep, h1.holes.keep (fun _ _ => rfl) h1.rep (fun j hj => hAd.same βm fun hjm => ?_), h1.nodup, h1.own⟩
              rw [hAd.free k R hkm hl j hjm] at hj; cases hj
          · intro k k' R R' hne hl hl' b hb hb'
            rcases hAd.cases hl with ⟨p, hp, rfl, rfl⟩ | ⟨hkm, hl⟩ <;> rcases hAd.cases hl' with ⟨p', hp', rfl, rfl⟩ | ⟨hkm', hl'⟩
            · have h1 : p.1 ∈ m.map Prod.fst := List.mem_map.2 ⟨p, hp, rfl⟩
              have h2 : p'.1 ∈ m.map Prod.fst := List.mem_map.2 ⟨p', hp', rfl⟩
              rw [mix_in h1] at hb; rw [mix_in h2] at hb'
              exact flat_apart hFnd h1 h2 hne b hb hb'
            · have h1 : p.1 ∈ m.map Prod.fst := List.mem_map.2 ⟨p, hp, rfl⟩
              rw [mix_in h1] at hb; rw [mix_out hkm'] at hb'
              exact hX.apart k' R' hl' b hb' (hFm _ h1 b hb)
            · have h2 : p'.1 ∈ m.map Prod.fst := List.mem_map.2 ⟨p', hp', rfl⟩
              rw [mix_out hkm] at hb; rw [mix_in h2] at hb'
              exact hX.apart k R hl b hb (hFm _ h2 b hb')
            · rw [mix_out hkm] at hb; rw [mix_out hkm'] at hb'
              exact hi.disj k k' R R' hne hl hl' b hb hb'
        refine ⟨σ1, _, _, _, hK, hinv, ?_, hAd.n, hAd.b, ?_, ?_, ?_⟩
        · have h1 := resSV_ok (β := mix m βm β) (ρ := σ1.r) (l := false) hinv.ptr0 ru' hHu
          have h2 := SVR.low h1
          rw [resSV_low] at h2
          have eagg : u.isAgg = τ.isAgg := hA.agg
          simpa [wrapV, eagg] using h2
        · intro r hu
          have hu' : (resSV σ1.r false u y).uses r = true := by
            have := resSV_low (ρ := σ1.r) (l := false) (a := y)
            cases hq : resSV σ1.r false u y <;> rw [hq] at hu this <;> first | exact hu | (simp [SV.low] at this)
          obtain ⟨p, hp, rfl⟩ := holeIn_iff.1 (resSV_uses hu')
          rcases hA.holes p hp with h | ⟨h, _⟩
          · rw [solid_iff hsol] at h
            exact absurd h (by simp)
          · exact (hnames _ h).2
        · intro k hk
          refine hAd.same βm fun hkm => ?_
          have := hnames k hkm
          omega
        · intro X2 h2 hd
          refine ⟨h2.nodup, h2.own, fun k R hl b hb hb2 => ?_⟩
          rcases hAd.cases hl with ⟨p, hp, rfl, rfl⟩ | ⟨hkm, hl⟩
          · have h1 : p.1 ∈ m.map Prod.fst := List.mem_map.2 ⟨p, hp, rfl⟩
            rw [mix_in h1] at hb
            exact hd b (hFm _ h1 b hb) hb2
          · rw [mix_out hkm] at hb
            exact h2.apart k R hl b hb hb2
      · simp at hK
    · simp at hK
theorem retsK_ok {R : Type} : ∀ (rs : List Ty) {β : Nat → Value} {F : Nat → List Nat} {σ : St} {q : denL rs} {n : Nat} {vals : List Value} {Ys : List (List Nat)} {K : List SV → St → Option R} {res : R}, Inv C I β F σ w tm → retsK rs q n σ K = some res →
    RetsR (hpOf w) (Sx C.L I false) rs q vals Ys → Taken C I F σ w Ys.flatten →
    ∃ σ' svs β' F', K svs σ' = some res ∧ Inv C I β' F' σ' w tm ∧ All2 (SVR0 (hpOf w) C.L I β' σ'.r) svs vals ∧ σ'.n = σ.n ∧ σ'.b = σ.b ∧ (∀ k, k < n → Same β β' σ.r σ'.r k)
  | [], β, F, σ, q, n, [], [], K, res, hi, he, _, _ => ⟨σ, [], β, F, he, hi, trivial, rfl, rfl, fun k _ => Same.refl k⟩
  | [], _, _, _, _, _, [], _ :: _, _, _, _, _, h, _ | [], _, _, _, _, _, _ :: _, _, _, _, _, _, h, _ => h.elim
  | _ :: _, _, _, _, _, _, [], _, _, _, _, _, h, _ | _ :: _, _, _, _, _, _, _ :: _, [], _, _, _, _, h, _ => h.elim
  | τ :: rs, β, F, σ, (a, q), n, v :: vals, Y :: Ys, K, res, hi, he, ⟨⟨cs, h1, h1'⟩, h2⟩, hX => by
    simp only [retsK] at he
    simp only [List.flatten_cons] at hX
    obtain ⟨n1, n2, n3⟩ := List.nodup_append.1 hX.nodup
    have t1 : Taken C I F σ w Y := ⟨n1, fun b hb => hX.own b (by simp [hb]), fun k R hl b hb hm => hX.apart k R hl b hb (by simp [hm])⟩
    have t2 : Taken C I F σ w Ys.flatten := ⟨n2, fun b hb => hX.own b (by rw [List.mem_append]; exact .inr hb), fun k R hl b hb hm => hX.apart k R hl b hb (by rw [List.mem_append]; exact .inr hm)⟩
    obtain ⟨σ1, sv, β1, F1, a1, a2, a3, a4, a5, a6, a7, a8⟩ := retK_ok hi he h1 t1
    obtain ⟨σ2, svs, β2, F2, b1, b2, b3, b4, b5, b6⟩ := retsK_ok rs a2 a1 h2 (a8 _ t2 (fun b hb hb' => n3 b hb b hb' rfl))
    refine ⟨σ2, sv :: svs, β2, F2, b1, b2, ⟨?_, b3⟩, by rw [b4, a4], by rw [b5, a5], fun k hk => ?_⟩
    · rw [h1']
      exact SVR0.mono (fun b hb => ⟨hb, rfl⟩) (fun b _ => rfl) (fun r hu => b6 r (a6 r hu)) a3
    · obtain ⟨c1, c2⟩ := a7 k (.inl hk)
      obtain ⟨d1, d2⟩ := b6 k (by omega)
      refine ⟨c1.trans d1, fun hl => ?_⟩
      rw [d2 (fun e => hl (c1.none_iff.2 e)), c2 hl]
end
end Go.Proofs.YthlpjdjipchdkaaDoor.E

namespace Go.Proofs.YthlpjdjipchdkaaDoor.E
open Go
set_option linter.unusedSimpArgs false
set_option linter.unusedVariables false
theorem appN_eq : ∀ a b : List Nat, appN a b = a ++ b
  | [], _ => rfl
  | x :: a, b => by simp [appN, appN_eq a b]
theorem layB_symm : ∀ {t u : Ty}, layB t u = true → layB u t = true
  | .pair a b, u, h => by
    cases u <;> simp [layB] at h
    simp [layB, layB_symm h.1, layB_symm h.2]
  | .arr n t, u, h => by
    cases u <;> simp [layB] at h
    rename_i m u
    obtain ⟨rfl, h⟩ := h
    obtain rfl := tyEq_iff h
    exact layB_refl _
  | .unit, u, h => by
    cases u <;> simp [layB] at h
    rfl
  | .int _, u, h | .bool, u, h | .str, u, h | .sl _ _, u, h | .ptr _ _, u, h | .ref _ _, u, h | .map _ _ _, u, h | .hole _, u, h | .raw _ _, u, h | .nils, u, h | .nilp, u, h => by
    cases u <;> simp [layB, Ty.size] at h <;> simp_all [layB, Ty.size]
theorem coe_lay : ∀ {τ t : Ty} {x : den t} {y : den τ}, coe τ t x = some y → layB t τ = true
  | .pair a b, .pair c d, x, y, h => by
    simp only [coe] at h
    cases ha : coe a c x.1 with
    | none => simp [ha] at h
    | some p =>
      cases hb : coe b d x.2 with
      | none => simp [ha, hb] at h
      | some q => simp [layB, coe_lay ha, coe_lay hb]
  | .ptr o a, .ref p b, x, y, h => rfl
  | .ref o a, .ref p b, x, y, h => rfl
  | .ptr _ _, .nilp, x, y, h => rfl
  | .sl _ _, .nils, x, y, h => rfl
  | .pair a b, .int _, x, y, h | .pair a b, .bool, x, y, h | .pair a b, .str, x, y, h | .pair a b, .unit, x, y, h | .pair a b, .arr _ _, x, y, h | .pair a b, .sl _ _, x, y, h | .pair a b, .ptr _ _, x, y, h | .pair a b, .ref _ _, x, y, h | .pair a b, .map _ _ _, x, y, h | .pair a b, .hole _, x, y, h | .pair a b, .raw _ _, x, y, h | .pair a b, .nils, x, y, h | .pair a b, .nilp, x, y, h
  | .ptr _ _, .int _, x, y, h | .ptr _ _, .bool, x, y, h | .ptr _ _, .str, x, y, h | .ptr _ _, .unit, x, y, h | .ptr _ _, .arr _ _, x, y, h | .ptr _ _, .sl _ _, x, y, h | .ptr _ _, .ptr _ _, x, y, h | .ptr _ _, .pair _ _, x, y, h | .ptr _ _, .map _ _ _, x, y, h | .ptr _ _, .hole _, x, y, h | .ptr _ _, .raw _ _, x, y, h | .ptr _ _, .nils, x, y, h
  | .ref _ _, .int _, x, y, h | .ref _ _, .bool, x, y, h | .ref _ _, .str, x, y, h | .ref _ _, .unit, x, y, h | .ref _ _, .arr _ _, x, y, h | .ref _ _, .sl _ _, x, y, h | .ref _ _, .ptr _ _, x, y, h | .ref _ _, .pair _ _, x, y, h | .ref _ _, .map _ _ _, x, y, h | .ref _ _, .hole _, x, y, h | .ref _ _, .raw _ _, x, y, h | .ref _ _, .nils, x, y, h | .ref _ _, .nilp, x, y, h
  | .sl _ _, .int _, x, y, h | .sl _ _, .bool, x, y, h | .sl _ _, .str, x, y, h | .sl _ _, .unit, x, y, h | .sl _ _, .arr _ _, x, y, h | .sl _ _, .sl _ _, x, y, h | .sl _ _, .ptr _ _, x, y, h | .sl _ _, .pair _ _, x, y, h | .sl _ _, .ref _ _, x, y, h | .sl _ _, .map _ _ _, x, y, h | .sl _ _, .hole _, x, y, h | .sl _ _, .raw _ _, x, y, h | .sl _ _, .nilp, x, y, h
  | .int _, t, x, y, h | .bool, t, x, y, h | .str, t, x, y, h | .unit, t, x, y, h | .arr _ _, t, x, y, h | .map _ _ _, t, x, y, h | .hole _, t, x, y, h | .raw _ _, t, x, y, h | .nils, t, x, y, h | .nilp, t, x, y, h => by
    simp only [coe] at h
    obtain ⟨e, _⟩ := cast?_some h
    cases e <;> exact layB_refl _
theorem apart_iff : ∀ {l m : List Nat}, apart l m = true → l.Nodup ∧ ∀ k ∈ l, k ∉ m
  | [], m, _ => ⟨List.nodup_nil, by simp⟩
  | k :: l, m, h => by
    simp only [apart, Bool.and_eq_true, Bool.not_eq_true'] at h
    obtain ⟨⟨h1, h2⟩, h3⟩ := h
    obtain ⟨i1, i2⟩ := apart_iff h3
    refine ⟨List.nodup_cons.2 ⟨fun hm => ?_, i1⟩, ?_⟩
    · rw [natMem_iff.2 hm] at h1; cases h1
    · intro j hj
      rcases List.mem_cons.1 hj with rfl | hj
      · intro hm; rw [natMem_iff.2 hm] at h2; cases h2
      · exact i2 j hj
theorem there_iff {σ : St} : ∀ {l : List Nat}, there σ l = true → ∀ n ∈ l, ∃ R, look σ.r n = some R
  | [], _, n, h => by simp at h
  | k :: l, h, n, hn => by
    simp only [there, Bool.and_eq_true] at h
    rcases List.mem_cons.1 hn with rfl | hn
    · cases hl : look σ.r n with
      | none => simp [hl] at h
      | some R => exact ⟨R, rfl⟩
    · exact there_iff h.2 n hn
structure Lss (I : Set') (σ : St) (I' : Set') (σ' : St) : Prop where
  sub : ∀ b, I b → I' b
  n : σ'.n = σ.n
  b : σ'.b = σ.b
  roots : ∀ k, LikeO (look σ.r k) (look σ'.r k) ∨ (look σ.r k ≠ none ∧ look σ'.r k = none)
theorem Less.lss {F I σ I' σ'} (h : Less F I σ I' σ') : Lss I σ I' σ' := ⟨h.sub, h.n, h.b, h.roots⟩
theorem Lss.refl {I σ} : Lss I σ I σ := ⟨fun _ h => h, rfl, rfl, fun _ => .inl (LikeO.refl _)⟩
theorem Lss.trans {I σ I' σ' I'' σ''} (h1 : Lss I σ I' σ') (h2 : Lss I' σ' I'' σ'') : Lss I σ I'' σ'' where
  sub := fun b hb => h2.sub b (h1.sub b hb)
  n := h2.n.trans h1.n
  b := h2.b.trans h1.b
  roots := fun k => by
    rcases h1.roots k with h | ⟨h, h'⟩
    · rcases h2.roots k with g | ⟨g, g'⟩
      · exact .inl (h.trans g)
      · exact .inr ⟨fun e => g (h.none_iff.1 e), g'⟩
    · rcases h2.roots k with g | ⟨g, g'⟩
      · exact .inr ⟨h, g.none_iff.1 h'⟩
      · exact (g h').elim
theorem Lss.back {I σ I' σ'} (hl : Lss I σ I' σ') {k : Nat} {R : Root} (h : look σ'.r k = some R) : ∃ R0, look σ.r k = some R0 ∧ R0.like R := by
  rcases hl.roots k with g | ⟨_, g⟩
  · rw [h] at g; exact g.some
  · rw [g] at h; cases h
theorem Lss.same {I σ I' σ'} {β : Nat → Value} (hl : Lss I σ I' σ') {k : Nat} (h : look σ'.r k ≠ none ∨ look σ.r k = none) : Same β β σ.r σ'.r k := by
  refine ⟨?_, fun _ => rfl⟩
  rcases hl.roots k with g | ⟨g, g'⟩
  · exact g
  · rcases h with h | h
    · exact (h g').elim
    · exact (g h).elim
def isV : SV → Bool
  | .v _ _ _ => true
  | _ => false
def Bad (ρ : List (Nat × Root)) (sv : SV) : Prop := isV sv = false ∧ ∃ r, sv.uses r = true ∧ look ρ r = none
def WS (h : Hp) (L I : Set') (β : Nat → Value) (ρ : List (Nat × Root)) (sv : SV) (v : Value) : Prop := SVR h L I β ρ sv v ∨ Bad ρ sv
theorem WS.go {h : Hp} {L I I' : Set'} {β : Nat → Value} {σ σ' : St} (hl : Lss I σ I' σ') {sv : SV} {v : Value} (hs : WS h L I β σ.r sv v) : WS h L I' β σ'.r sv v := by
  rcases hs with hs | ⟨h1, r, h2, h3⟩
  · cases hv : isV sv with
    | true =>
      left
      cases sv <;> simp [isV] at hv
      rename_i l t a
      obtain ⟨cs, g1, g2, g3⟩ := hs
      refine ⟨cs, Rep.keep (fun b hb => ⟨?_, rfl⟩) (by simp) g1, g2, fun p hp hk => ?_⟩
      · rcases hb with hb | hb
        · exact .inl (hl.sub b hb)
        · exact .inr hb
      · refine g3 p hp fun e => hk ?_
        rcases hl.roots p.2 with g | ⟨g, _⟩
        · exact g.none_iff.1 e
        · exact (g e).elim
    | false =>
      by_cases hb : ∃ r, sv.uses r = true ∧ look σ'.r r = none
      · exact .inr ⟨hv, hb⟩
      · left
        refine SVR.mono (fun b hb => ⟨hl.sub b hb, rfl⟩) (fun _ _ => rfl) (fun r hr => hl.same (.inl fun e => hb ⟨r, hr, e⟩)) hs
  · right
    refine ⟨h1, r, h2, ?_⟩
    rcases hl.roots r with g | ⟨g, g'⟩
    · exact g.none_iff.1 h3
    · exact g'
theorem Bad.p {ρ : List (Nat × Root)} {r : Nat} {s : List Sel} (h : Bad ρ (.p r s)) : look ρ r = none := by
  obtain ⟨_, k, h1, h2⟩ := h
  simp only [SV.uses, SV.uses0] at h1
  rw [Nat.eq_of_beq_eq_true h1]; exact h2
theorem Bad.sf {ρ : List (Nat × Root)} {r : Nat} (h : Bad ρ (.sf r)) : look ρ r = none := by
  obtain ⟨_, k, h1, h2⟩ := h
  simp only [SV.uses, SV.uses0] at h1
  rw [Nat.eq_of_beq_eq_true h1]; exact h2
theorem Bad.s {ρ : List (Nat × Root)} {r lo n : Nat} (h : Bad ρ (.s r lo n)) : look ρ r = none := by
  obtain ⟨_, k, h1, h2⟩ := h
  simp only [SV.uses, SV.uses0] at h1
  rw [Nat.eq_of_beq_eq_true h1]; exact h2
theorem Bad.mp {ρ : List (Nat × Root)} {r : Nat} (h : Bad ρ (.mp r)) : look ρ r = none := by
  obtain ⟨_, k, h1, h2⟩ := h
  simp only [SV.uses, SV.uses0] at h1
  rw [Nat.eq_of_beq_eq_true h1]; exact h2
theorem fullR_none {ρ : List (Nat × Root)} {len : Bool} {n r : Nat} (h : look ρ r = none) : fullR ρ len n r = none := by
  cases n with
  | zero => rfl
  | succ n => simp [fullR, h]
theorem lentV_bad {σ : St} {τ : Ty} {sv : SV} (h : Bad σ.r sv) : lentV σ τ sv = none := by
  cases sv with
  | p r s =>
    have := h.p
    simp only [lentV, this]
    split <;> rfl
  | sf r =>
    have := h.sf
    simp only [lentV, elems, this]
    split <;> rfl
  | s r lo n =>
    have := h.s
    simp only [lentV, elems, this]
    split <;> rfl
  | mp r => simp only [lentV, fullR_none h.mp]
  | v _ _ _ => simp [Bad, isV] at h
  | fn _ _ _ => simp [lentV, toV]
  | tup _ => simp [lentV, toV]
  | x => obtain ⟨_, r, h, _⟩ := h; simp [SV.uses, SV.uses0] at h
  | np => obtain ⟨_, r, h, _⟩ := h; simp [SV.uses, SV.uses0] at h
  | nl => obtain ⟨_, r, h, _⟩ := h; simp [SV.uses, SV.uses0] at h
  | q _ _ _ => obtain ⟨_, r, h, _⟩ := h; simp [SV.uses, SV.uses0] at h
theorem takeN_bad {σ : St} {τ : Ty} {sv : SV} (h : Bad σ.r sv) : takeN σ τ sv = none := by
  cases sv with
  | p r s =>
    cases s with
    | nil => simp only [takeN, fullR_none h.p]
    | cons _ _ => simp [takeN]
  | sf r => simp only [takeN, fullR_none h.sf]
  | s r lo n =>
    have := h.s
    simp only [takeN, this]
    split <;> rfl
  | mp r => simp only [takeN, fullR_none h.mp]
  | v _ _ _ => simp [Bad, isV] at h
  | fn _ _ _ => simp [takeN]
  | tup _ => simp [takeN]
  | x => obtain ⟨_, r, h, _⟩ := h; simp [SV.uses, SV.uses0] at h
  | np => obtain ⟨_, r, h, _⟩ := h; simp [SV.uses, SV.uses0] at h
  | nl => obtain ⟨_, r, h, _⟩ := h; simp [SV.uses, SV.uses0] at h
  | q _ _ _ => obtain ⟨_, r, h, _⟩ := h; simp [SV.uses, SV.uses0] at h
theorem shared_bad {σ σ' : St} {τ : Ty} {sv sv' : SV} (h : Bad σ.r sv) (hs : sharedV σ sv = (sv', σ')) : toV false τ sv' = none := by
  cases sv with
  | p r s => simp [sharedV, SV.root] at hs; obtain ⟨rfl, _⟩ := hs; simp [toV]
  | sf r => have := h.sf; simp [sharedV, SV.root, this] at hs; obtain ⟨rfl, _⟩ := hs; simp [toV]
  | s r lo n => have := h.s; simp [sharedV, SV.root, this] at hs; obtain ⟨rfl, _⟩ := hs; simp [toV]
  | mp r => simp [sharedV, SV.root] at hs; obtain ⟨rfl, _⟩ := hs; simp [toV]
  | v _ _ _ => simp [Bad, isV] at h
  | fn _ _ _ => simp [sharedV, SV.root] at hs; obtain ⟨rfl, _⟩ := hs; simp [toV]
  | tup _ => simp [sharedV, SV.root] at hs; obtain ⟨rfl, _⟩ := hs; simp [toV]
  | x => obtain ⟨_, r, h, _⟩ := h; simp [SV.uses, SV.uses0] at h
  | np => obtain ⟨_, r, h, _⟩ := h; simp [SV.uses, SV.uses0] at h
  | nl => obtain ⟨_, r, h, _⟩ := h; simp [SV.uses, SV.uses0] at h
  | q _ _ _ => obtain ⟨_, r, h, _⟩ := h; simp [SV.uses, SV.uses0] at h
def ArgR (h : Hp) (L I : Set') (len : Bool) (τ : Ty) (a : den τ) (cs : List Value) (X : List Nat) : Prop :=
  match ioTy τ with
  | some _ => Rep h (Sx L I len) false τ a cs X
  | none => Rep h (Sx L I len) len τ a cs X
def ArgsR (h : Hp) (L I : Set') : (ps : List (Bool × Ty)) → denL (ps.map (·.2)) → List Value → List (List Nat) → Prop
  | [], _, [], [] => True
  | (len, τ) :: ps, (a, r), v :: vs, X :: Xs => (∃ cs, ArgR h L I len τ a cs X ∧ v = wrapV τ cs) ∧ ArgsR h L I ps r vs Xs
  | _, _, _, _ => False
def PtrIn : Ty → Value → Value → Prop
  | .pair _ _, v, u => v = .agg #[u]
  | _, v, u => v = u
def OutsR (h : Hp) (L I : Set') : (ps : List (Bool × Ty)) → List Value → denL (outTys ps) → List (List Nat) → Prop
  | [], _, _, Zs => Zs = []
  | _ :: _, [], _, _ => False
  | (len, τ) :: ps, v :: vs, r, Zs => match headO (ioTy τ) (outTys ps) r with
    | (some ⟨t, a⟩, r) => ∃ Z Zs' u, Zs = Z :: Zs' ∧ PtrIn τ v u ∧ Rep h (Sx L I len) false (.ref true t) a [u] Z ∧ OutsR h L I ps vs r Zs'
    | (none, r) => OutsR h L I ps vs r Zs
structure Back (C : Ctx) (ps : List (Bool × Ty)) (rs : List Ty) (vs : List Value) (q : denL rs) (o : denL (outTys ps)) (v : Value) (w' : World) (I' : Set') (vals : List Value) (Ys Zs : List (List Nat)) : Prop where
  val : v = tupleV vals
  rets : RetsR (hpOf w') (Sx C.L I' false) rs q vals Ys
  outs : OutsR (hpOf w') C.L I' ps vs o Zs
  nodup : (Ys.flatten ++ Zs.flatten).Nodup
  own : ∀ b ∈ Ys.flatten ++ Zs.flatten, ¬ I' b ∧ ¬ C.L b ∧ b < w'.heap.size ∧ (C.X b ∨ C.n ≤ b)
  shared : ∀ b, I' b → b < w'.heap.size ∧ (C.I b ∨ C.X b ∨ C.n ≤ b)
  sub : ∀ b, C.I b → I' b
  frame : ∀ b, b < C.n → ¬ C.X b → hpOf w' b = C.h b
  grow : C.n ≤ w'.heap.size
  rest : restOf w' = C.z
def Hold (P : Program) (T : Tab) (G : Glob) (f : FuncId) (ps : List (Bool × Ty)) (rs : List Ty) (a : denL (ps.map (·.2))) (q : denL rs) (o : denL (outTys ps)) : Prop :=
  ∀ (C : Ctx), C.P = P → C.T = T → C.G = G → C.tk = [] → ∀ (w : World) (vs : List Value) (Xs : List (List Nat)), hpOf w = C.h → w.heap.size = C.n → restOf w = C.z → ArgsR C.h C.L C.I ps a vs Xs →
    (∀ b, C.X b ↔ b ∈ Xs.flatten) → Xs.flatten.Nodup → (∀ b ∈ Xs.flatten, b < C.n) →
    Calls P f vs.toArray w fun e w' => ∃ v I' vals Ys Zs, e = .returned v ∧ Back C ps rs vs q o v w' I' vals Ys Zs
def PrimOk (P : Program) (E' : Env) : Prop :=
  ∀ (f : FuncId) (dst : Option Nat) (svs : List SV) (σ σ' : St) (sv : SV), E'.prim f dst svs σ = some (true, sv, σ') →
    (∃ F, P.funcs[f]? = some F ∧ F.body.isSome = true ∧ F.name ≠ "runtime.NumGoroutine") ∧
    ∀ (C : Ctx), C.P = P → C.T = E'.T → C.G = E'.G → ∀ {I : Set'} {β : Nat → Value} {F : Nat → List Nat} {w : World} {tm : Array Value} {vs : List Value}, Inv C I β F σ w tm → All2 (SVR (hpOf w) C.L I β σ.r) svs vs →
      Calls P f vs.toArray w fun e w' => ∃ v, e = .returned v ∧ ∃ I' β' F', Inv C I' β' F' σ' w' tm ∧ SVR (hpOf w') C.L I' β' σ'.r sv v
def FnOk (P : Program) (E' : Env) (fn : E'.Fn) : Prop :=
  PrimOk P E' ∧
  ∀ f, E'.known f = true → (∃ F, P.funcs[f]? = some F ∧ F.body.isSome = true ∧ F.name ≠ "runtime.NumGoroutine") ∧
    ∀ a q o, fn f a = some (q, o) → Hold P E'.T E'.G f (E'.sig f).ps (E'.sig f).rs a q o
section
variable {C : Ctx} {I : Set'} {β : Nat → Value} {F : Nat → List Nat} {w : World} {tm : Array Value}
theorem io_cases {τ t : Ty} (h : ioTy τ = some t) : τ = .ref true t ∨ τ = .pair (.ref true t) .unit := by
  unfold ioTy at h
  split at h
  · simp only [Option.some.injEq] at h; exact .inl (by rw [h])
  · simp only [Option.some.injEq] at h; exact .inr (by rw [h])
  · cases h
def argG (p : Pass) (len : Bool) (τ : Ty) (sv : SV) : Option (den τ × Pass) :=
  match len with
  | true => match lentV p.σ τ sv with
    | some (a, m) => some (a, { σ := p.σ, owns := p.owns, boxes := p.boxes, moved := p.moved, lents := appN m p.lents })
    | none => none
  | false => match τ.flat with
    | true => match sharedV p.σ sv with
      | (sv, σ) => match toV false τ sv with
        | some y => some (y, { σ := σ, owns := p.owns, boxes := p.boxes, moved := p.moved, lents := p.lents })
        | none => none
    | false => match takeN p.σ τ sv with
      | some (y, m) => some (y, { σ := p.σ, owns := appN m p.owns, boxes := p.boxes, moved := appN m p.moved, lents := p.lents })
      | none => none
theorem argV_forms (τ : Ty) : (∃ u, τ = .ref true u) ∨ (∃ u, τ = .pair (.ref true u) .unit) ∨ (ioTy τ = none ∧ ∀ p len sv, argV p len τ sv = argG p len τ sv) := by
  cases τ with
  | ref o u =>
    cases o with
    | true => exact .inl ⟨u, rfl⟩
    | false => exact .inr (.inr ⟨rfl, fun _ _ _ => rfl⟩)
  | pair x y =>
    cases x with
    | ref o u =>
      cases o with
      | true => cases y <;> first | exact .inr (.inl ⟨u, rfl⟩) | exact .inr (.inr ⟨rfl, fun _ _ _ => rfl⟩)
      | false => exact .inr (.inr ⟨rfl, fun _ _ _ => rfl⟩)
    | _ => exact .inr (.inr ⟨rfl, fun _ _ _ => rfl⟩)
  | _ => exact .inr (.inr ⟨rfl, fun _ _ _ => rfl⟩)
structure ArgOk (C : Ctx) (I : Set') (β : Nat → Value) (F : Nat → List Nat) (w : World) (tm : Array Value) (p p' : Pass) (len : Bool) (τ : Ty) (sv : SV) (v : Value) (a : den τ) (I' : Set') (F' : Nat → List Nat) (ks X : List Nat) : Prop where
  inv : Inv C I' β F' p'.σ w tm
  less : Lss I p.σ I' p'.σ
  same : ∀ k, k ∉ ks → F' k = F k
  owns : p'.owns = ks ++ p.owns
  lents : ∀ r ∈ p.lents, r ∈ p'.lents
  moved : ∀ r ∈ p.moved, r ∈ p'.moved
  boxes : ∀ r ∈ p.boxes, r ∈ p'.boxes
  new : ∀ k ∈ p'.moved, k ∈ p.moved ∨ k ∈ ks
  inc : Inc X (ks.map F').flatten
  val : ∀ L1 I2, (∀ b, C.L b → L1 b) → (∀ r ∈ p'.lents, ∀ b ∈ F' r, L1 b) → (∀ b, I' b → I2 b) → ∃ cs, ArgR (hpOf w) L1 I2 len τ a cs X ∧ v = wrapV τ cs
  io : ∀ t, ioTy τ = some t → ∃ r l u b, boxOf sv = some r ∧ ks = [r] ∧ look p'.σ.r r = some (.box l u b) ∧ layB u t = true ∧ solid t = true ∧ PtrIn τ v (β r) ∧ r ∈ p'.boxes
  take : ioTy τ = none → ∀ k ∈ ks, k ∈ p'.moved
  from' : ∀ k b, b ∈ F' k → look p'.σ.r k ≠ none → ∃ j, look p.σ.r j ≠ none ∧ b ∈ F j ∧ (j = k ∨ look p'.σ.r j = none)
theorem argBox {p p' : Pass} (hi : Inv C I β F p.σ w tm) {len l : Bool} {τ t u : Ty} {x : den u} {y : den t} {sv : SV} {v : Value} {a : den τ} {r : Nat} {σ' : St} (hio : ioTy τ = some t) (hsv : boxOf sv = some r)
    (hv : look p.σ.r r ≠ none → (∃ l u b, look p.σ.r r = some (.box l u b)) → PtrIn τ v (β r)) (hj : joinR p.σ r = some σ') (hl : look σ'.r r = some (.box l u x)) (hc : ((!l || len) && solid t) = true) (hy : coe t u x = some y)
    (hp : p' = { σ := σ', owns := r :: p.owns, boxes := r :: p.boxes, moved := p.moved, lents := p.lents })
    (ha : ∀ (S : Set') X, Rep (hpOf w) S false (.ref true t) y [β r] X → ∃ cs, Rep (hpOf w) S false τ a cs X ∧ (PtrIn τ v (β r) → v = wrapV τ cs)) :
    ∃ I' F' ks X, ArgOk C I β F w tm p p' len τ sv v a I' F' ks X := by
  subst hp
  obtain ⟨F', h1, h2⟩ := joinK_ok hi hj
  simp only [Bool.and_eq_true] at hc
  have hback := (h2.less (I := I)).back hl
  obtain ⟨R0, g1, g2⟩ := hback
  have hbox : ∃ l u b, look p.σ.r r = some (.box l u b) := by
    cases R0 with
    | box l0 u0 b0 => exact ⟨l0, u0, b0, g1⟩
    | arr _ _ _ _ => exact g2.elim
    | map _ _ _ _ _ => exact g2.elim
  have hpi := hv (by rw [g1]; simp) hbox
  refine ⟨I, F', [r], F' r, h1, (h2.less (I := I)).lss, fun k hk => h2.same k (by simpa using hk), rfl, fun _ h => h, fun _ h => h, fun _ h => by simp [h], fun k hk => .inl hk, by simp; exact Inc.refl, ?_, ?_, (fun h => by rw [hio] at h; cases h), fun k b hb hk => ?_⟩
  · intro L1 I2 e1 e2 e3
    have hR : Rep (hpOf w) (Sx C.L I l) false (.ref true u) x [β r] (F' r) := h1.roots r _ hl
    obtain ⟨k1, _⟩ := coe_rep (τ := .ref true t) (t := .ref true u) (y := y) (by simpa [coe, boolEq] using hy) hR
    have k2 : Rep (hpOf w) (Sx L1 I2 len) false (.ref true t) y [β r] (F' r) := Rep.keep (fun b hb => ⟨by
      rcases hb with hb | ⟨hb, hb'⟩
      · exact .inl (e3 b hb)
      · refine .inr ⟨?_, e1 b hb'⟩
        have := hc.1
        rw [hb] at this
        simpa using this, rfl⟩) (fun _ _ => rfl) k1
    obtain ⟨cs, k3, k4⟩ := ha _ _ k2
    exact ⟨cs, by unfold ArgR; rw [hio]; exact k3, k4 hpi⟩
  · intro t' ht
    rw [hio] at ht
    obtain rfl := Option.some.inj ht
    exact ⟨r, l, u, x, hsv, rfl, hl, coe_lay hy, hc.2, hpi, by simp⟩
  · by_cases e : k = r
    · subst e
      obtain ⟨j, j1, j2, j3⟩ := h2.from' b hb
      exact ⟨j, j1, j2, j3⟩
    · rw [h2.same k e] at hb
      refine ⟨k, fun e' => ?_, hb, .inl rfl⟩
      rcases h2.roots k with g | ⟨g, _⟩
      · exact hk (g.none_iff.1 e')
      · exact g e'
theorem argV_ok {p p' : Pass} (hi : Inv C I β F p.σ w tm) {len : Bool} {τ : Ty} {sv : SV} {v : Value} {a : den τ} (hs : WS (hpOf w) C.L I β p.σ.r sv v) (he : argV p len τ sv = some (a, p')) :
    ∃ I' F' ks X, ArgOk C I β F w tm p p' len τ sv v a I' F' ks X := by
  have gen : ioTy τ = none → argG p len τ sv = some (a, p') → ∃ I' F' ks X, ArgOk C I β F w tm p p' len τ sv v a I' F' ks X := by
    intro hio h
    unfold argG at h
    cases len with
    | true =>
      simp only at h
      cases hl : lentV p.σ τ sv with
      | none => simp [hl] at h
      | some q =>
        obtain ⟨y, m⟩ := q
        simp only [hl, Option.some.injEq, Prod.mk.injEq] at h
        obtain ⟨rfl, rfl⟩ := h
        have hs' : SVR (hpOf w) C.L I β p.σ.r sv v := by
          rcases hs with hs | hs
          · exact hs
          · rw [lentV_bad hs] at hl; cases hl
        refine ⟨I, F, [], [], hi, .refl, fun _ _ => rfl, rfl, fun r hr => by simp only [appN_eq, List.mem_append]; exact .inr hr, fun _ h => h, fun _ h => h, fun _ h => .inl h, by simp; exact Inc.refl, ?_, (fun t ht => by rw [hio] at ht; cases ht), (fun _ k hk => by simp at hk), fun k b hb hk => ?_⟩
        · intro L1 I2 e1 e2 e3
          obtain ⟨cs, g1, g2⟩ := lentV_ok hi hs' hl e1 (fun r hr => e2 r (by simp only [appN_eq, List.mem_append]; exact .inl hr)) e3
          exact ⟨cs, by unfold ArgR; rw [hio]; exact g1, g2⟩
        · exact ⟨k, hk, hb, .inl rfl⟩
    | false =>
      simp only at h
      cases hf : τ.flat with
      | true =>
        simp only [hf] at h
        cases hsh : sharedV p.σ sv with
        | mk sv' σ' =>
          simp only [hsh] at h
          cases ht : toV false τ sv' with
          | none => simp [ht] at h
          | some y =>
            simp only [ht, Option.some.injEq, Prod.mk.injEq] at h
            obtain ⟨rfl, rfl⟩ := h
            have hs' : SVR (hpOf w) C.L I β p.σ.r sv v := by
              rcases hs with hs | hs
              · exact hs
              · rw [shared_bad hs hsh] at ht; cases ht
            obtain ⟨I', h1, h2, h3⟩ := shared_ok hi hs' hsh
            obtain ⟨cs, h4, h5⟩ := toV_ok ht h2
            refine ⟨I', F, [], [], h1, h3.lss, fun _ _ => rfl, rfl, fun _ h => h, fun _ h => h, fun _ h => h, fun _ h => .inl h, by simp; exact Inc.refl, ?_, (fun t ht => by rw [hio] at ht; cases ht), (fun _ k hk => by simp at hk), fun k b hb hk => ?_⟩
            · intro L1 I2 e1 e2 e3
              refine ⟨cs, ?_, h5⟩
              unfold ArgR; rw [hio]
              refine rep_any hf (Rep.keep (fun b hb => ⟨?_, rfl⟩) (by simp) h4)
              rcases hb with hb | ⟨hb, _⟩
              · exact .inl (e3 b hb)
              · cases hb
            · refine ⟨k, fun e' => ?_, hb, .inl rfl⟩
              rcases h3.roots k with g | ⟨g, _⟩
              · exact hk (g.none_iff.1 e')
              · exact g e'
      | false =>
        simp only [hf] at h
        cases ht : takeN p.σ τ sv with
        | none => simp [ht] at h
        | some q =>
          obtain ⟨y, m⟩ := q
          simp only [ht, Option.some.injEq, Prod.mk.injEq] at h
          obtain ⟨rfl, rfl⟩ := h
          have hs' : SVR (hpOf w) C.L I β p.σ.r sv v := by
            rcases hs with hs | hs
            · exact hs
            · rw [takeN_bad hs] at ht; cases ht
          obtain ⟨⟨cs, X, g1, g2, g3⟩, g4, g5⟩ := takeN_ok hi hs' ht
          refine ⟨I, F, m, X, hi, .refl, fun _ _ => rfl, by simp [appN_eq], fun _ h => h, fun r hr => by simp only [appN_eq, List.mem_append]; exact .inr hr, fun _ h => h, fun k hk => ?_, g3, ?_, (fun t ht => by rw [hio] at ht; cases ht), (fun _ k hk => by simp only [appN_eq, List.mem_append]; exact .inl hk), fun k b hb hk => ⟨k, hk, hb, .inl rfl⟩⟩
          · simp only [appN_eq, List.mem_append] at hk
            rcases hk with hk | hk
            · exact .inr hk
            · exact .inl hk
          · intro L1 I2 e1 e2 e3
            refine ⟨cs, ?_, g2⟩
            unfold ArgR; rw [hio]
            refine Rep.keep (fun b hb => ⟨?_, rfl⟩) (fun _ _ => rfl) g1
            rcases hb with hb | ⟨hb, _⟩
            · exact .inl (e3 b hb)
            · cases hb
  rcases argV_forms τ with ⟨u, rfl⟩ | ⟨u, rfl⟩ | ⟨hio, hg⟩
  · simp only [argV] at he
    split at he
    · rename_i r
      split at he
      · rename_i σ' hj
        split at he
        · rename_i l t x hl
          split at he
          · rename_i y hc hy
            simp only [Option.some.injEq, Prod.mk.injEq] at he
            obtain ⟨rfl, rfl⟩ := he
            refine argBox hi rfl rfl (fun hne hb => ?_) hj hl hc hy rfl (fun S X hr => ⟨[β r], hr, fun h => h⟩)
            rcases hs with hs | hs
            · obtain ⟨R, o, u0, k1, k2, k3, k4⟩ := hs
              obtain ⟨l1, u1, b1, k5⟩ := hb
              rw [k5] at k1
              obtain rfl := Option.some.inj k1
              simp only [Root.off, selOff, Option.some.injEq, Prod.mk.injEq] at k2
              obtain ⟨rfl, rfl⟩ := k2
              rw [hi.ptr0 r l1 u1 b1 k5] at k4
              exact k4
            · exact (hne hs.p).elim
          · simp at he
        · simp at he
      · simp at he
    · simp at he
  · simp only [argV] at he
    split at he
    · rename_i r hbo hbf
      split at he
      · rename_i σ' hj
        split at he
        · rename_i l t x hl
          split at he
          · rename_i y hc hy
            simp only [Option.some.injEq, Prod.mk.injEq] at he
            obtain ⟨rfl, rfl⟩ := he
            refine argBox hi rfl hbo (fun hne hb => ?_) hj hl hc hy rfl (fun S X hr => ⟨[β r], ⟨[β r], [], X, [], rfl, by simp, hr, rfl, rfl⟩, fun h => h⟩)
            unfold boxOf at hbo
            split at hbo
            · rename_i r'
              simp [boxFits] at hbf
            · rename_i l1 k z
              simp only [Option.some.injEq] at hbo
              subst hbo
              rcases hs with hs | hs
              · obtain ⟨cs, ⟨c1, c2, X1, X2, e1, e2, ⟨⟨v1, rfl, _⟩, _⟩, rfl, _⟩, e5, e6⟩ := hs
                have := e6 (0, k) (by simp [holesOf]) hne
                rw [e1] at this
                simp at this
                subst this
                rw [e5, e1]
                rfl
              · simp [Bad, isV] at hs
            · cases hbo
          · simp at he
        · simp at he
      · simp at he
    · simp at he
  · rw [hg] at he; exact gen hio he
end
end Go.Proofs.YthlpjdjipchdkaaDoor.E

namespace Go.Proofs.YthlpjdjipchdkaaDoor.E
open Go
set_option linter.unusedSimpArgs false
set_option linter.unusedVariables false
section
variable {C : Ctx} {I : Set'} {β : Nat → Value} {F : Nat → List Nat} {w : World} {tm : Array Value}
def BoxR (β : Nat → Value) (ρ : List (Nat × Root)) (ms : List Nat) : (ps : List (Bool × Ty)) → List SV → List Value → List (List Nat) → Prop
  | [], [], [], [] => True
  | (len, τ) :: ps, sv :: svs, v :: vs, ks :: kss => (∀ t, ioTy τ = some t → ∃ r l u b, boxOf sv = some r ∧ ks = [r] ∧ look ρ r = some (.box l u b) ∧ layB u t = true ∧ solid t = true ∧ PtrIn τ v (β r)) ∧
      (ioTy τ = none → ∀ k ∈ ks, k ∈ ms) ∧ BoxR β ρ ms ps svs vs kss
  | _, _, _, _ => False
structure ArgsOk (C : Ctx) (I : Set') (β : Nat → Value) (F : Nat → List Nat) (w : World) (tm : Array Value) (p p' : Pass) (ps : List (Bool × Ty)) (svs : List SV) (vs : List Value) (a : denL (ps.map (·.2))) (I' : Set') (F' : Nat → List Nat) (kss Xs : List (List Nat)) : Prop where
  inv : Inv C I' β F' p'.σ w tm
  less : Lss I p.σ I' p'.σ
  same : ∀ k, k ∉ kss.flatten → F' k = F k
  owns : p'.owns.Perm (kss.flatten ++ p.owns)
  lents : ∀ r ∈ p.lents, r ∈ p'.lents
  moved : ∀ r ∈ p.moved, r ∈ p'.moved
  boxes : ∀ r ∈ p.boxes, r ∈ p'.boxes
  new : ∀ k ∈ p'.moved, k ∈ p.moved ∨ k ∈ kss.flatten
  inc : Inc Xs.flatten (kss.flatten.map F').flatten
  val : ∀ L1 I2, (∀ b, C.L b → L1 b) → (∀ r ∈ p'.lents, ∀ b ∈ F' r, L1 b) → (∀ b, I' b → I2 b) → ArgsR (hpOf w) L1 I2 ps a vs Xs
  from' : ∀ k b, b ∈ F' k → look p'.σ.r k ≠ none → ∃ j, look p.σ.r j ≠ none ∧ b ∈ F j ∧ (j = k ∨ look p'.σ.r j = none)
  box : ∀ ρ ms, (∀ r ∈ kss.flatten, look p'.σ.r r ≠ none) → (∀ r ∈ p'.boxes, look ρ r = look p'.σ.r r) → (∀ r ∈ p'.moved, r ∈ ms) → BoxR β ρ ms ps svs vs kss
theorem argsV_ok : ∀ (ps : List (Bool × Ty)) {I : Set'} {F : Nat → List Nat} {svs : List SV} {vs : List Value} {p p' : Pass} {a : denL (ps.map (·.2))}, Inv C I β F p.σ w tm → All2 (WS (hpOf w) C.L I β p.σ.r) svs vs →
    argsV ps svs p = some (a, p') → p'.owns.Nodup → (∀ k ∈ p'.owns, k ∉ p'.lents) → ∃ I' F' kss Xs, ArgsOk C I β F w tm p p' ps svs vs a I' F' kss Xs
  | [], I, F, [], [], p, p', a, hi, _, he, _, _ => by
    simp [argsV] at he
    obtain ⟨_, rfl⟩ := he
    exact ⟨I, F, [], [], hi, .refl, fun _ _ => rfl, by simp, fun _ h => h, fun _ h => h, fun _ h => h, fun _ h => .inl h, by simp; exact Inc.refl, fun _ _ _ _ _ => trivial, fun k b hb hk => ⟨k, hk, hb, .inl rfl⟩, fun _ _ _ _ _ => trivial⟩
  | [], I, F, [], _ :: _, _, _, _, _, h, _, _, _ => h.elim
  | [], I, F, _ :: _, _, p, p', a, hi, h, he, _, _ => by simp [argsV] at he
  | (len, τ) :: ps, I, F, [], _, _, _, _, _, _, he, _, _ => by simp [argsV] at he
  | (len, τ) :: ps, I, F, sv :: svs, [], _, _, _, _, h, _, _, _ => h.elim
  | (len, τ) :: ps, I, F, sv :: svs, v :: vs, p, p', a, hi, ⟨h1, h2⟩, he, hnd, hol => by
    simp only [argsV] at he
    cases hq : argV p len τ sv with
    | none => simp [hq] at he
    | some q =>
      obtain ⟨x, p1⟩ := q
      simp only [hq] at he
      cases hr : argsV ps svs p1 with
      | none => simp [hr] at he
      | some q2 =>
        obtain ⟨r, p2⟩ := q2
        simp only [hr, Option.some.injEq, Prod.mk.injEq] at he
        obtain ⟨rfl, rfl⟩ := he
        obtain ⟨I1, F1, ks, X, hA⟩ := argV_ok hi h1 hq
        obtain ⟨I2, F2, kss, Xs, hB⟩ := argsV_ok ps hA.inv (h2.imp fun sv2 _ v2 h => h.go hA.less) hr hnd hol
        have hperm : p2.owns.Perm (kss.flatten ++ (ks ++ p.owns)) := by rw [← hA.owns]; exact hB.owns
        have hnd' := hperm.nodup_iff.1 hnd
        obtain ⟨n1, n2, n3⟩ := List.nodup_append.1 hnd'
        have hks : ∀ k ∈ ks, k ∉ kss.flatten := fun k hk hk' => n3 k hk' k (by simp [hk]) rfl
        have hlent : ∀ k ∈ p2.lents, k ∉ kss.flatten := fun k hk hk' => hol k (hperm.mem_iff.2 (by simp only [List.mem_append]; exact .inl hk')) hk
        have emap : ks.map F1 = ks.map F2 := List.map_congr_left fun k hk => (hB.same k (hks k hk)).symm
        refine ⟨I2, F2, ks :: kss, X :: Xs, hB.inv, hA.less.trans hB.less, ?_, ?_, fun r h => hB.lents r (hA.lents r h), fun r h => hB.moved r (hA.moved r h), fun r h => hB.boxes r (hA.boxes r h), ?_, ?_, ?_, ?_, ?_⟩
        · intro k hk
          simp only [List.flatten_cons, List.mem_append, not_or] at hk
          rw [hB.same k hk.2, hA.same k hk.1]
        · refine hperm.trans ?_
          simp only [List.flatten_cons, List.append_assoc]
          rw [← List.append_assoc, ← List.append_assoc]
          exact List.Perm.append_right _ List.perm_append_comm
        · intro k hk
          rcases hB.new k hk with h | h
          · rcases hA.new k h with h | h
            · exact .inl h
            · exact .inr (by simp [h])
          · exact .inr (by simp only [List.flatten_cons, List.mem_append]; exact .inr h)
        · simp only [List.flatten_cons, List.map_append, List.flatten_append]
          have := hA.inc
          rw [emap] at this
          exact this.append hB.inc
        · intro L1 J h3 h4 h5
          exact ⟨hA.val L1 J h3 (fun r hr b hb => h4 r (hB.lents r hr) b (by rw [hB.same r (hlent r (hB.lents r hr))]; exact hb)) (fun b hb => h5 b (hB.less.sub b hb)), hB.val L1 J h3 h4 h5⟩
        · intro k b hb hk
          obtain ⟨j, j1, j2, j3⟩ := hB.from' k b hb hk
          obtain ⟨i, i1, i2, i3⟩ := hA.from' j b j2 j1
          refine ⟨i, i1, i2, ?_⟩
          have hgone : ∀ {x}, look p1.σ.r x = none → look p2.σ.r x = none := fun {x} h => by
            rcases hB.less.roots x with g | ⟨g, g'⟩
            · exact g.none_iff.1 h
            · exact g'
          rcases i3 with rfl | i3
          · exact j3
          · exact .inr (hgone i3)
        · intro ρ ms hall hρ hms
          refine ⟨fun t ht => ?_, fun hio k hk => hms k (hB.moved k (hA.take hio k hk)), hB.box ρ ms (fun r hr => hall r (by simp only [List.flatten_cons, List.mem_append]; exact .inr hr)) hρ hms⟩
          obtain ⟨k, l, u, b, g1, g2, g3, g4, g4', g5, g6⟩ := hA.io t ht
          have hk := hall k (by simp [g2])
          cases hl : look p2.σ.r k with
          | none => exact (hk hl).elim
          | some R =>
            obtain ⟨R0, e1, e2⟩ := hB.less.back hl
            rw [g3] at e1
            obtain rfl := Option.some.inj e1
            cases R with
            | box l' u' b' =>
              refine ⟨k, l', u', b', g1, g2, by rw [hρ k (hB.boxes k g6)]; exact hl, layB_trans (layB_symm e2) g4, g4', g5⟩
            | arr _ _ _ _ => exact e2.elim
            | map _ _ _ _ _ => exact e2.elim
theorem Inv.change {σ : St} (hi : Inv C I β F σ w tm) {w' : World} {I' : Set'} {F' : Nat → List Nat} {ρ : List (Nat × Root)} (hsz : w.heap.size ≤ w'.heap.size) (hz : restOf w' = restOf w)
    (hI : ∀ b, I b → I' b ∧ hpOf w' b = hpOf w b) (hL : ∀ b, C.L b → hpOf w' b = hpOf w b)
    (hkeep : ∀ r, Same β β σ.r ρ r)
    (hroots : ∀ r R, look ρ r = some R → RootOk C I' β ρ w' (β r) R (F' r))
    (hdisj : ∀ r r' R R', r ≠ r' → look ρ r = some R → look ρ r' = some R' → ∀ b ∈ F' r, b ∉ F' r')
    (hsh : ∀ b, I' b → b < w'.heap.size ∧ (C.I b ∨ C.X b ∨ C.n ≤ b)) (hfr : ∀ b, b < C.n → ¬ C.X b → hpOf w' b = C.h b) : Inv C I' β F' { t := σ.t, c := σ.c, r := ρ, n := σ.n, b := σ.b, k := σ.k } w' tm where
  size := hi.size
  slots i := SVR.mono hI hL (fun r _ => hkeep r) (hi.slots i)
  conds k e u v hm he := SVR.mono hI hL (fun r _ => hkeep r) (hi.conds k e u v hm he)
  undefs := hi.undefs
  roots r R hl := (hroots r R hl).rep
  holes r R hl := (hroots r R hl).holes
  nodup r R hl := (hroots r R hl).nodup
  disj r r' R R' hne h1 h2 := hdisj r r' R R' hne h1 h2
  own r R hl := (hroots r R hl).own
  shared := hsh
  sub b hb := (hI b (hi.sub b hb)).1
  frame := hfr
  grow := Nat.le_trans hi.grow hsz
  rest := hz.trans hi.rest
  frames := frames_mono (fun sv v hs => SVR.mono hI hL (fun r _ => hkeep r) hs) hi.frames
theorem BoxR.upd {ρ : List (Nat × Root)} {ms : List Nat} {k : Nat} {R' : Root} : ∀ {ps : List (Bool × Ty)} {svs : List SV} {vs : List Value} {kss : List (List Nat)}, k ∉ kss.flatten → BoxR β ρ ms ps svs vs kss → BoxR β (upd ρ k R') ms ps svs vs kss
  | [], [], [], [], _, _ => trivial
  | (len, τ) :: ps, sv :: svs, v :: vs, ks :: kss, hk, ⟨h1, h2, h3⟩ => by
    simp only [List.flatten_cons, List.mem_append, not_or] at hk
    refine ⟨fun t ht => ?_, h2, BoxR.upd hk.2 h3⟩
    obtain ⟨r, l, u, b, g1, g2, g3, g4⟩ := h1 t ht
    refine ⟨r, l, u, b, g1, g2, ?_, g4⟩
    rw [look_upd_ne (by rintro rfl; exact hk.1 (by simp [g2]))]
    exact g3
  | [], [], [], _ :: _, _, h | [], [], _ :: _, _, _, h | [], _ :: _, _, _, _, h => h.elim
  | _ :: _, [], _, _, _, h | _ :: _, _ :: _, [], _, _, h | _ :: _, _ :: _, _ :: _, [], _, h => h.elim
def OutsOk (h' : Hp) (L I' : Set') (β : Nat → Value) (ms : List Nat) (σ σ' : St) (kss : List (List Nat)) (Zs : List (List Nat)) : Prop :=
  ∃ zs : List (Nat × List Nat), zs.map (·.2) = Zs ∧ (∀ k ∈ kss.flatten, k ∈ zs.map (·.1) ∨ k ∈ ms) ∧ (∀ k ∈ zs.map (·.1), k ∈ kss.flatten) ∧ (zs.map (·.1)).Nodup ∧
    ∃ ρ', σ' = { t := σ.t, c := σ.c, r := ρ', n := σ.n, b := σ.b, k := σ.k } ∧ (∀ r R', look ρ' r = some R' → (∃ Z, (r, Z) ∈ zs ∧ RootR h' L I' (β r) R' Z ∧ ∀ ρ, RootH h' β ρ (β r) R') ∨ (r ∉ zs.map (·.1) ∧ look σ.r r = some R')) ∧
      (∀ r, LikeO (look σ.r r) (look ρ' r))
theorem OutsOk.other {h' : Hp} {L I' : Set'} {ms ks : List Nat} {σ σ' : St} {kss : List (List Nat)} {Zs : List (List Nat)} (hm : ∀ k ∈ ks, k ∈ ms) (h : OutsOk h' L I' β ms σ σ' kss Zs) : OutsOk h' L I' β ms σ σ' (ks :: kss) Zs := by
  obtain ⟨zs, h1, h2, h3, h4, h5⟩ := h
  refine ⟨zs, h1, ?_, fun k hk => by simp only [List.flatten_cons, List.mem_append]; exact .inr (h3 k hk), h4, h5⟩
  intro k hk
  simp only [List.flatten_cons, List.mem_append] at hk
  rcases hk with hk | hk
  · exact .inr (hm k hk)
  · exact h2 k hk
theorem OutsOk.box {h' : Hp} {L I' : Set'} {ms : List Nat} {σ σ' : St} {kss : List (List Nat)} {Z : List Nat} {Zs : List (List Nat)} {r : Nat} {l l' : Bool} {t u : Ty} {a : den t} {b : den u} (hl : look σ.r r = some (.box l' u b)) (hlay : layB u t = true) (hsol : solid t = true) (hr : r ∉ kss.flatten)
    (hR : Rep h' (Sx L I' l) false (.ref true t) a [β r] Z) (h : OutsOk h' L I' β ms { t := σ.t, c := σ.c, r := upd σ.r r (.box l t a), n := σ.n, b := σ.b, k := σ.k } σ' kss Zs) : OutsOk h' L I' β ms σ σ' ([r] :: kss) (Z :: Zs) := by
  obtain ⟨zs, h1, h2, h3, h4, ρ', h5, h6, h7⟩ := h
  have hnot : r ∉ zs.map (·.1) := fun hm => hr (h3 r hm)
  refine ⟨(r, Z) :: zs, by simp [h1], ?_, ?_, List.nodup_cons.2 ⟨hnot, h4⟩, ρ', h5, ?_, ?_⟩
  · intro k hk
    simp only [List.flatten_cons, List.mem_append, List.mem_singleton] at hk
    rcases hk with rfl | hk
    · exact .inl (by simp)
    · rcases h2 k hk with h | h
      · exact .inl (by simp only [List.map_cons, List.mem_cons]; exact .inr h)
      · exact .inr h
  · intro k hk
    simp only [List.map_cons, List.mem_cons] at hk
    simp only [List.flatten_cons, List.mem_append, List.mem_singleton]
    rcases hk with rfl | hk
    · exact .inl rfl
    · exact .inr (h3 k hk)
  · intro k R' hk
    rcases h6 k R' hk with ⟨Z', g1, g2⟩ | ⟨g1, g2⟩
    · exact .inl ⟨Z', by simp [g1], g2⟩
    · by_cases e : k = r
      · subst e
        simp only [look_upd_same hl, Option.some.injEq] at g2
        subst g2
        refine .inl ⟨Z, by simp, hR, fun ρ => ?_⟩
        obtain ⟨v, e1, _, e2⟩ := ref_ptr hR hsol
        simp only [List.cons.injEq, and_true] at e1
        rw [e1]
        exact e2 β ρ l
      · simp only [look_upd_ne e] at g2
        refine .inr ⟨?_, g2⟩
        simp only [List.map_cons, List.mem_cons, not_or]
        exact ⟨e, g1⟩
  · intro k
    refine LikeO.trans ?_ (h7 k)
    by_cases e : k = r
    · subst e
      simp only [look_upd_same hl, hl]
      exact hlay
    · simp only [look_upd_ne e]
      exact LikeO.refl _
theorem PtrIn.inj {τ : Ty} {v u u' : Value} (h : PtrIn τ v u) (h' : PtrIn τ v u') : u = u' := by
  cases τ <;> simp only [PtrIn] at h h' <;> first | exact h.symm.trans h' | skip
  rw [h] at h'
  simpa using h'
theorem outs_ok {h' : Hp} {L I' : Set'} {ms : List Nat} : ∀ (ps : List (Bool × Ty)) {σ : St} {svs : List SV} {vs : List Value} {kss : List (List Nat)} {o : denL (outTys ps)} {Zs : List (List Nat)}, BoxR β σ.r ms ps svs vs kss → OutsR h' L I' ps vs o Zs → kss.flatten.Nodup →
    OutsOk h' L I' β ms σ (outsV ps svs o σ) kss Zs
  | [], σ, [], [], [], o, Zs, _, hO, _ => by
    obtain rfl : Zs = [] := hO
    exact ⟨[], rfl, by simp, by simp, by simp, σ.r, rfl, fun r R' h => .inr ⟨by simp, h⟩, fun r => LikeO.refl _⟩
  | (len, τ) :: ps, σ, sv :: svs, v :: vs, ks :: kss, o, Zs, ⟨h1, h2, h3⟩, hO, hn => by
    simp only [List.flatten_cons, List.nodup_append] at hn
    simp only [OutsR] at hO
    simp only [outsV]
    have key : ∀ (ot : Option Ty), ioTy τ = ot → ∀ (q : Option TV × denL (outTys ps)), (match q with
        | (some ⟨t, a⟩, r) => ∃ Z Zs' u, Zs = Z :: Zs' ∧ PtrIn τ v u ∧ Rep h' (Sx L I' len) false (.ref true t) a [u] Z ∧ OutsR h' L I' ps vs r Zs'
        | (none, r) => OutsR h' L I' ps vs r Zs) → (q.1.map (·.t) = ot) →
        OutsOk h' L I' β ms σ (match q with
          | (some ⟨t, a⟩, r) => outsV ps svs r (match boxOf sv with
            | some n => { t := σ.t, c := σ.c, r := upd σ.r n (.box len t a), n := σ.n, b := σ.b, k := σ.k }
            | none => σ)
          | (none, r) => outsV ps svs r σ) (ks :: kss) Zs := by
      intro ot hot q hq hqt
      obtain ⟨o1, r⟩ := q
      cases o1 with
      | none =>
        simp only [Option.map_none] at hqt
        subst hqt
        exact OutsOk.other (h2 hot) (outs_ok ps h3 hq hn.2.1)
      | some p =>
        obtain ⟨t, a⟩ := p
        simp only [Option.map_some] at hqt
        subst hqt
        obtain ⟨Z, Zs', u, rfl, hp, hR, hrest⟩ := hq
        obtain ⟨k, l', u', b, g1, rfl, g3, g4, g5, g6⟩ := h1 t hot
        obtain rfl := hp.inj g6
        simp only [g1]
        have hr : k ∉ kss.flatten := fun hm => hn.2.2 k (by simp) k hm rfl
        exact OutsOk.box g3 g4 g5 hr hR (outs_ok ps (BoxR.upd hr h3) hrest hn.2.1)
    refine key (ioTy τ) rfl _ hO ?_
    clear hO key
    revert o
    show ∀ o : denL (consO (ioTy τ) (outTys ps)), _
    generalize ioTy τ = ot
    intro o
    cases ot with
    | none => rfl
    | some t => rfl
  | [], _, [], [], _ :: _, _, _, h, _, _ | [], _, [], _ :: _, _, _, _, h, _, _ | [], _, _ :: _, _, _, _, _, h, _, _ => h.elim
  | _ :: _, _, [], _, _, _, _, h, _, _ | _ :: _, _, _ :: _, [], _, _, _, h, _, _ | _ :: _, _, _ :: _, _ :: _, [], _, _, h, _, _ => h.elim
end
end Go.Proofs.YthlpjdjipchdkaaDoor.E

namespace Go.Proofs.YthlpjdjipchdkaaDoor.E
open Go
set_option linter.unusedSimpArgs false
set_option linter.unusedVariables false
def newF (F : Nat → List Nat) : List (Nat × List Nat) → Nat → List Nat
  | [], r => F r
  | (k, Z) :: l, r => if k = r then Z else newF F l r
theorem newF_not {F : Nat → List Nat} {r : Nat} : ∀ {zs : List (Nat × List Nat)}, r ∉ zs.map (·.1) → newF F zs r = F r
  | [], _ => rfl
  | (k, Z) :: l, h => by
    simp only [List.map_cons, List.mem_cons, not_or] at h
    rw [newF, if_neg (fun e => h.1 e.symm), newF_not h.2]
theorem newF_mem {F : Nat → List Nat} {r : Nat} {Z : List Nat} : ∀ {zs : List (Nat × List Nat)}, (zs.map (·.1)).Nodup → (r, Z) ∈ zs → newF F zs r = Z
  | (k, Z') :: l, hn, h => by
    simp only [List.map_cons, List.nodup_cons] at hn
    rcases List.mem_cons.1 h with h | h
    · simp only [Prod.mk.injEq] at h
      rw [newF, if_pos h.1.symm, h.2]
    · rw [newF, if_neg, newF_mem hn.2 h]
      rintro rfl
      exact hn.1 (List.mem_map.2 ⟨_, h, rfl⟩)
theorem zs_apart {r r' : Nat} {Z Z' : List Nat} : ∀ {zs : List (Nat × List Nat)}, ((zs.map (·.2)).flatten).Nodup → r ≠ r' → (r, Z) ∈ zs → (r', Z') ∈ zs → ∀ b ∈ Z, b ∉ Z'
  | (k, Y) :: l, hn, hne, h, h', b, hb, hb' => by
    simp only [List.map_cons, List.flatten_cons, List.nodup_append] at hn
    have inl : ∀ {j W}, (j, W) ∈ l → b ∈ W → b ∈ (l.map (·.2)).flatten := fun {j W} hm hw => List.mem_flatten.2 ⟨W, List.mem_map.2 ⟨_, hm, rfl⟩, hw⟩
    rcases List.mem_cons.1 h with h | h <;> rcases List.mem_cons.1 h' with h' | h'
    · simp only [Prod.mk.injEq] at h h'; exact hne (h.1.trans h'.1.symm)
    · simp only [Prod.mk.injEq] at h; exact hn.2.2 b (h.2 ▸ hb) b (inl h' hb') rfl
    · simp only [Prod.mk.injEq] at h'; exact hn.2.2 b (h'.2 ▸ hb') b (inl h hb) rfl
    · exact zs_apart hn.2.1 hne h h' b hb hb'
theorem nodup_of_flat : ∀ {l : List (List Nat)}, l.flatten.Nodup → ∀ Z ∈ l, Z.Nodup
  | [], _, Z, h => by simp at h
  | Y :: l, hn, Z, h => by
    simp only [List.flatten_cons, List.nodup_append] at hn
    rcases List.mem_cons.1 h with rfl | h
    · exact hn.1
    · exact nodup_of_flat hn.2.1 Z h
theorem RetsR.wide {h : Hp} {S S' : Set'} (hS : ∀ b, S b → S' b) : ∀ {rs : List Ty} {q : denL rs} {vs : List Value} {Xs : List (List Nat)}, RetsR h S rs q vs Xs → RetsR h S' rs q vs Xs
  | [], _, [], [], _ => trivial
  | [], _, [], _ :: _, h | [], _, _ :: _, _, h => h.elim
  | _ :: _, _, [], _, h | _ :: _, _, _ :: _, [], h => h.elim
  | τ :: rs, (a, q), v :: vs, X :: Xs, ⟨⟨cs, h1, h2⟩, h3⟩ => ⟨⟨cs, Rep.keep (fun b hb => ⟨hS b hb, rfl⟩) (fun _ _ => rfl) h1, h2⟩, RetsR.wide hS h3⟩
theorem ioFree_io {len : Bool} {τ : Ty} {ps : List (Bool × Ty)} (h : ioFree ((len, τ) :: ps) = true) : (ioTy τ ≠ none → len = false) ∧ ioFree ps = true := by
  simp only [ioFree, Bool.and_eq_true, Bool.or_eq_true, Bool.not_eq_true'] at h
  refine ⟨fun hn => ?_, h.2⟩
  rcases h.1 with h | h
  · exact h
  · cases hi : ioTy τ with
    | none => exact (hn hi).elim
    | some t => rw [hi] at h; cases h
theorem headO_tag {ot : Option Ty} {l : List Ty} {o : denL (consO ot l)} : (headO ot l o).1.map (·.t) = ot := by
  cases ot with
  | none => rfl
  | some t => rfl
theorem OutsR.wide {h : Hp} {L L' I : Set'} : ∀ {ps : List (Bool × Ty)} {vs : List Value} {o : denL (outTys ps)} {Zs : List (List Nat)}, (ioFree ps = true ∨ ∀ b, L b → L' b) → OutsR h L I ps vs o Zs → OutsR h L' I ps vs o Zs
  | [], _, _, _, _, hO => hO
  | _ :: _, [], _, _, _, hO => hO.elim
  | (len, τ) :: ps, v :: vs, o, Zs, hL, hO => by
    simp only [OutsR] at hO ⊢
    have hL' : ioFree ps = true ∨ ∀ b, L b → L' b := by
      rcases hL with hL | hL
      · exact .inl (ioFree_io hL).2
      · exact .inr hL
    have hlen : ioTy τ ≠ none → ∀ b, Sx L I len b → Sx L' I len b := by
      rintro hn b (hb | ⟨hl, hb⟩)
      · exact .inl hb
      · rcases hL with hL | hL
        · rw [(ioFree_io hL).1 hn] at hl; cases hl
        · exact .inr ⟨hl, hL b hb⟩
    have ht := headO_tag (ot := ioTy τ) (l := outTys ps) (o := o)
    have key : ∀ (q : Option TV × denL (outTys ps)), q.1.map (·.t) = ioTy τ → (match q with
        | (some ⟨t, a⟩, r) => ∃ Z Zs' u, Zs = Z :: Zs' ∧ PtrIn τ v u ∧ Rep h (Sx L I len) false (.ref true t) a [u] Z ∧ OutsR h L I ps vs r Zs'
        | (none, r) => OutsR h L I ps vs r Zs) → (match q with
        | (some ⟨t, a⟩, r) => ∃ Z Zs' u, Zs = Z :: Zs' ∧ PtrIn τ v u ∧ Rep h (Sx L' I len) false (.ref true t) a [u] Z ∧ OutsR h L' I ps vs r Zs'
        | (none, r) => OutsR h L' I ps vs r Zs) := by
      rintro ⟨o1, r⟩ ht hq
      cases o1 with
      | none => exact OutsR.wide hL' hq
      | some p =>
        obtain ⟨t, a⟩ := p
        obtain ⟨Z, Zs', u, e1, e2, e3, e4⟩ := hq
        have hne : ioTy τ ≠ none := by rw [← ht]; simp
        exact ⟨Z, Zs', u, e1, e2, Rep.keep (fun b hb => ⟨hlen hne b hb, rfl⟩) (fun _ _ => rfl) e3, OutsR.wide hL' e4⟩
    exact key _ ht hO
section
variable {C : Ctx} {I : Set'} {β : Nat → Value} {F : Nat → List Nat} {σ : St} {w : World} {tm : Array Value}
structure Called (C : Ctx) (I : Set') (β : Nat → Value) (F : Nat → List Nat) (σ : St) (p : Pass) (σ' : St) (w : World) (tm : Array Value) (rs : List Ty) (q : denL rs) (v : Value) (w' : World) (I' : Set') (F' : Nat → List Nat) (vals : List Value) (Ys : List (List Nat)) : Prop where
  inv : Inv C I' β F' σ' w' tm
  sub : ∀ b, I b → I' b
  grow : w.heap.size ≤ w'.heap.size
  val : v = tupleV vals
  rets : RetsR (hpOf w') (Sx C.L I' false) rs q vals Ys
  taken : Taken C I' F' σ' w' Ys.flatten
  n : σ'.n = σ.n
  b : σ'.b = σ.b
  keep : ∀ b, b < w.heap.size → ¬ (∃ r, (r ∈ p.owns ∨ look p.σ.r r = none) ∧ look σ.r r ≠ none ∧ b ∈ F r) → hpOf w' b = hpOf w b
theorem call_ok (hi : Inv C I β F σ w tm) {ps : List (Bool × Ty)} {rs : List Ty} {f : FuncId} {svs : List SV} {vs : List Value} {a : denL (ps.map (·.2))} {q : denL rs} {o : denL (outTys ps)} {p : Pass}
    (hs : All2 (SVR (hpOf w) C.L I β σ.r) svs vs) (he : argsV ps svs ⟨σ, [], [], [], []⟩ = some (a, p)) (hap : apart p.owns p.lents = true) (hmb : apart p.moved p.boxes = true) (hio : (ioFree ps || nilL p.lents) = true) (ht1 : there p.σ p.owns = true) (ht2 : there p.σ p.lents = true)
    (hH : Hold C.P C.T C.G f ps rs a q o) :
    Calls C.P f vs.toArray w fun e w' => ∃ v, e = .returned v ∧ ∃ I' F' vals Ys, Called C I β F σ p (outsV ps svs o (killL p.moved p.σ)) w tm rs q v w' I' F' vals Ys := by
  obtain ⟨c1, c2⟩ := apart_iff hap
  obtain ⟨d1, d2⟩ := apart_iff hmb
  obtain ⟨I1, F1, kss, Xs, hA⟩ := argsV_ok ps hi (hs.imp fun sv _ v h => .inl h) he c1 c2
  have b1 := hA.inv
  have hperm : p.owns.Perm kss.flatten := by simpa using hA.owns
  have hmem : ∀ r, r ∈ kss.flatten → r ∈ p.owns := fun r hr => hperm.mem_iff.2 hr
  have hkn : kss.flatten.Nodup := hperm.nodup_iff.1 c1
  have hpres : ∀ r ∈ kss.flatten, ∃ R, look p.σ.r r = some R := fun r hr => there_iff ht1 r (hmem r hr)
  have hdis : ∀ r ∈ kss.flatten, ∀ r' R', look p.σ.r r' = some R' → r ≠ r' → ∀ b ∈ F1 r, b ∉ F1 r' := fun r hr r' R' hl hne => by
    obtain ⟨R, hR⟩ := hpres r hr
    exact b1.disj r r' R R' hne hR hl
  have hXmem : ∀ b, b ∈ Xs.flatten → ∃ r ∈ kss.flatten, b ∈ F1 r := by
    intro b hb
    obtain ⟨W, hW, hw⟩ := List.mem_flatten.1 (hA.inc.mem b hb)
    obtain ⟨j, hj, rfl⟩ := List.mem_map.1 hW
    exact ⟨j, hj, hw⟩
  have hXown : ∀ b, b ∈ Xs.flatten → ¬ I1 b ∧ ¬ C.L b ∧ b < w.heap.size ∧ (C.X b ∨ C.n ≤ b) := by
    intro b hb
    obtain ⟨r, hr, hb⟩ := hXmem b hb
    obtain ⟨R, hR⟩ := hpres r hr
    exact b1.own r R hR b hb
  have hLC : ∀ b, C.L b → hpOf w b = C.h b := fun b hb => b1.frame b (C.Lok b hb).1 (C.Lok b hb).2
  let C1 : Ctx := { P := C.P, T := C.T, h := hpOf w, n := w.heap.size, L := fun b => C.L b ∨ ∃ r ∈ p.lents, b ∈ F1 r, I := I1, X := fun b => b ∈ Xs.flatten, z := restOf w, G := C.G, tk := []
                    Iok := fun b hb => ⟨(b1.shared b hb).1, fun hX => (hXown b hX).1 hb⟩
                    Lok := fun b hb => by
                      rcases hb with hb | ⟨r, hr, hb⟩
                      · exact ⟨Nat.lt_of_lt_of_le (C.Lok b hb).1 b1.grow, fun hX => (hXown b hX).2.1 hb⟩
                      · obtain ⟨R, hR⟩ := there_iff ht2 r hr
                        refine ⟨(b1.own r R hR b hb).2.2.1, fun hX => ?_⟩
                        obtain ⟨k, hk, hb'⟩ := hXmem b hX
                        exact hdis k hk r R hR (by rintro rfl; exact c2 k (hmem k hk) hr) b hb' hb
                    ok := C.ok
                    eqs := C.eqs
                    zag := C.zag
                    gok := fun g v hg => by
                      refine Rep.keep (fun b hb => ⟨?_, ?_⟩) (by simp) (C.gok g v hg)
                      · rcases hb with hb | ⟨_, hb⟩
                        · exact .inl (b1.sub b hb)
                        · exact .inr ⟨rfl, .inl hb⟩
                      · rcases hb with hb | ⟨_, hb⟩
                        · exact b1.frame b (C.Iok b hb).1 (C.Iok b hb).2
                        · exact hLC b hb }
  have hArgs : ArgsR C1.h C1.L C1.I ps a vs Xs := hA.val _ _ (fun b hb => .inl hb) (fun r hr b hb => .inr ⟨r, hr, hb⟩) (fun b hb => hb)
  have hXn : Xs.flatten.Nodup := hA.inc.nodup (b1.flat_nodup hkn (fun r hr => by obtain ⟨R, hR⟩ := hpres r hr; rw [hR]; simp))
  refine (hH C1 rfl rfl rfl rfl w vs Xs rfl rfl rfl hArgs (fun b => Iff.rfl) hXn (fun b hb => (hXown b hb).2.2.1)).mono ?_
  rintro e w' ⟨v, I', vals, Ys, Zs, rfl, hB⟩
  refine ⟨v, rfl, ?_⟩
  obtain ⟨hk, hkn', hkb', hkm, hko⟩ := killL_ok p.moved b1
  have hbox : BoxR β (killL p.moved p.σ).r p.moved ps svs vs kss := hA.box _ _ (fun r hr => by obtain ⟨R, hR⟩ := hpres r hr; rw [hR]; simp) (fun r hr => hko r fun hm => d2 r hm hr) (fun _ h => h)
  have houts : OutsR (hpOf w') C.L I' ps vs o Zs := by
    refine OutsR.wide ?_ hB.outs
    simp only [Bool.or_eq_true] at hio
    rcases hio with h | h
    · exact .inl h
    · right
      rintro b (hb | ⟨r, hr, _⟩)
      · exact hb
      · cases hl : p.lents with
        | nil => rw [hl] at hr; simp at hr
        | cons x l => rw [hl] at h; cases h
  obtain ⟨zs, z1, z2, z3, z4, ρ', z5, z6, z7⟩ := outs_ok (L := C.L) ps hbox houts hkn
  have hfrm : ∀ b, b < w.heap.size → b ∉ Xs.flatten → hpOf w' b = hpOf w b := fun b h1 h2 => hB.frame b h1 h2
  have hnd := hB.nodup
  rw [List.nodup_append] at hnd
  have hrest : ∀ r R', r ∉ zs.map (·.1) → look (killL p.moved p.σ).r r = some R' → look p.σ.r r = some R' ∧ ∀ b ∈ F1 r, b ∉ Xs.flatten := by
    intro r R' hr hl
    have hm : r ∉ p.moved := fun hm => by rw [hkm r hm] at hl; cases hl
    rw [hko r hm] at hl
    refine ⟨hl, fun b hb hX => ?_⟩
    obtain ⟨k, hk, hb'⟩ := hXmem b hX
    refine hdis k hk r R' hl ?_ b hb' hb
    rintro rfl
    rcases z2 k hk with h | h
    · exact hr h
    · exact hm h
  have hZown : ∀ r Z, (r, Z) ∈ zs → ∀ b ∈ Z, b ∈ Zs.flatten := fun r Z hm b hb => List.mem_flatten.2 ⟨Z, by rw [← z1]; exact List.mem_map.2 ⟨_, hm, rfl⟩, hb⟩
  have hlift : ∀ b, ¬ I' b ∧ ¬ C1.L b ∧ b < w'.heap.size ∧ (C1.X b ∨ C1.n ≤ b) → ¬ I' b ∧ ¬ C.L b ∧ b < w'.heap.size ∧ (C.X b ∨ C.n ≤ b) := by
    rintro b ⟨h1, h2, h3, h4⟩
    refine ⟨h1, fun h => h2 (.inl h), h3, ?_⟩
    rcases h4 with h4 | h4
    · exact (hXown b h4).2.2.2
    · exact .inr (Nat.le_trans b1.grow h4)
  have hold : ∀ r R', r ∉ zs.map (·.1) → look (killL p.moved p.σ).r r = some R' → ∀ b ∈ F1 r, ¬ I' b ∧ ¬ (b ∈ Ys.flatten ++ Zs.flatten) ∧ b < w.heap.size ∧ hpOf w' b = hpOf w b := by
    intro r R' hr hl b hb
    obtain ⟨g1, g2⟩ := hrest r R' hr hl
    have g3 := b1.own r R' g1 b hb
    refine ⟨fun hI => ?_, fun hm => ?_, g3.2.2.1, hfrm b g3.2.2.1 (g2 b hb)⟩
    · rcases (hB.shared b hI).2 with h | h | h
      · exact g3.1 h
      · exact g2 b hb h
      · have : w.heap.size ≤ b := h
        omega
    · rcases (hB.own b hm).2.2.2 with h | h
      · exact g2 b hb h
      · have : w.heap.size ≤ b := h
        omega
  have hI : ∀ b, I1 b → I' b ∧ hpOf w' b = hpOf w b := fun b hb => ⟨hB.sub b hb, hfrm b (b1.shared b hb).1 (fun hX => (hXown b hX).1 hb)⟩
  have hL : ∀ b, C.L b → hpOf w' b = hpOf w b := fun b hb => hfrm b (Nat.lt_of_lt_of_le (C.Lok b hb).1 b1.grow) (fun hX => (hXown b hX).2.1 hb)
  have hsame : ∀ r, Same β β (killL p.moved p.σ).r ρ' r := fun r => ⟨z7 r, fun _ => rfl⟩
  refine ⟨I', newF F1 zs, vals, Ys, ⟨?_, fun b hb => hB.sub b (hA.less.sub b hb), hB.grow, hB.val, RetsR.wide ?_ hB.rets, ⟨hnd.1, fun b hb => hlift b (hB.own b (by simp [hb])), ?_⟩, ?_, ?_, ?_⟩⟩
  · rw [z5]
    refine hk.change hB.grow hB.rest hI hL hsame ?_ ?_ ?_ ?_
    · intro r R hl
      rcases z6 r R hl with ⟨Z, g1, g2, g3⟩ | ⟨g1, g2⟩
      · rw [newF_mem z4 g1]
        refine ⟨g2, g3 _, ?_, fun b hb => hlift b (hB.own b (by simp only [List.mem_append]; exact .inr (hZown r Z g1 b hb)))⟩
        have : Zs.flatten.Nodup := hnd.2.1
        rw [← z1] at this
        exact nodup_of_flat this Z (List.mem_map.2 ⟨_, g1, rfl⟩)
      · rw [newF_not g1]
        obtain ⟨k1, k2⟩ := hrest r R g1 g2
        have hR := b1.root k1
        have hRk := hk.root g2
        have hX : ∀ b ∈ F1 r, hpOf w' b = hpOf w b := fun b hb => (hold r _ g1 g2 b hb).2.2.2
        refine ⟨hR.rep.keep hI hL hX, hRk.holes.keep hX hR.rep (fun j _ => hsame j), hR.nodup, fun b hb => ?_⟩
        have := hR.own b hb
        have h2 := hold r R g1 g2 b hb
        exact ⟨h2.1, this.2.1, Nat.lt_of_lt_of_le h2.2.2.1 hB.grow, this.2.2.2⟩
    · intro r r' R R' hne hl hl' b hb
      rcases z6 r R hl with ⟨Z, g1, _⟩ | ⟨g1, g2⟩ <;> rcases z6 r' R' hl' with ⟨Z', g1', _⟩ | ⟨g1', g2'⟩
      · rw [newF_mem z4 g1] at hb
        rw [newF_mem z4 g1']
        have : Zs.flatten.Nodup := hnd.2.1
        rw [← z1] at this
        exact zs_apart this hne g1 g1' b hb
      · rw [newF_mem z4 g1] at hb
        rw [newF_not g1']
        intro hb'
        exact (hold r' R' g1' g2' b hb').2.1 (by simp only [List.mem_append]; exact .inr (hZown r Z g1 b hb))
      · rw [newF_not g1] at hb
        rw [newF_mem z4 g1']
        intro hb'
        exact (hold r R g1 g2 b hb).2.1 (by simp only [List.mem_append]; exact .inr (hZown r' Z' g1' b hb'))
      · rw [newF_not g1] at hb
        rw [newF_not g1']
        exact b1.disj r r' R R' hne (hrest r R g1 g2).1 (hrest r' R' g1' g2').1 b hb
    · intro b hb
      obtain ⟨h1, h2⟩ := hB.shared b hb
      refine ⟨h1, ?_⟩
      rcases h2 with h2 | h2 | h2
      · exact (b1.shared b h2).2
      · exact .inr (hXown b h2).2.2.2
      · exact .inr (.inr (Nat.le_trans b1.grow h2))
    · intro b hb hX
      rw [hfrm b (Nat.lt_of_lt_of_le hb b1.grow) (fun hm => ?_)]
      · exact b1.frame b hb hX
      · rcases (hXown b hm).2.2.2 with h | h
        · exact hX h
        · omega
  · rintro b (hb | ⟨hb, _⟩)
    · exact .inl hb
    · cases hb
  · intro r R hl b hb hb'
    rw [z5] at hl
    rcases z6 r R hl with ⟨Z, g1, _⟩ | ⟨g1, g2⟩
    · rw [newF_mem z4 g1] at hb
      exact hnd.2.2 b hb' b (hZown r Z g1 b hb) rfl
    · rw [newF_not g1] at hb
      exact (hold r R g1 g2 b hb).2.1 (by simp [hb'])
  · rw [z5]
    show (killL p.moved p.σ).n = σ.n
    rw [hkn']; exact hA.less.n
  · rw [z5]
    show (killL p.moved p.σ).b = σ.b
    rw [hkb']; exact hA.less.b
  · intro b hb hn
    refine hfrm b hb fun hX => hn ?_
    obtain ⟨r, hr, hbr⟩ := hXmem b hX
    obtain ⟨R, hR⟩ := hpres r hr
    obtain ⟨j, j1, j2, j3⟩ := hA.from' r b hbr (by rw [hR]; simp)
    refine ⟨j, ?_, j1, j2⟩
    rcases j3 with rfl | j3
    · exact .inl (hmem _ hr)
    · exact .inr j3
end
end Go.Proofs.YthlpjdjipchdkaaDoor.E

namespace Go.Proofs.YthlpjdjipchdkaaDoor.E
open Go
set_option linter.unusedSimpArgs false
set_option linter.unusedVariables false
section
variable {C : Ctx} {I : Set'} {β : Nat → Value} {F : Nat → List Nat} {σ : St} {w : World} {tm : Array Value}
theorem unhang_mem {d k e : Nat} {u : Bool} {v' : SV} : ∀ {l : List (Nat × Nat × Bool × SV)}, (k, e, u, v') ∈ unhang d l → (k, e, u, v') ∈ l ∧ k ≠ d ∧ e ≠ d
  | [], h => by simp [unhang] at h
  | (k1, e1, u1, v1) :: l, h => by
    simp only [unhang] at h
    cases hb : (Nat.beq k1 d || Nat.beq e1 d) with
    | true => rw [hb] at h; have := unhang_mem (l := l) h; exact ⟨by simp [this.1], this.2⟩
    | false =>
      rw [hb] at h
      simp only [Bool.or_eq_false_iff] at hb
      rcases List.mem_cons.1 h with h | h
      · simp only [Prod.mk.injEq] at h
        obtain ⟨rfl, rfl, rfl, rfl⟩ := h
        exact ⟨by simp, by intro e; subst e; simp at hb, by intro e; subst e; simp at hb⟩
      · have := unhang_mem (l := l) h; exact ⟨by simp [this.1], this.2⟩
theorem getD_set {tm : Array Value} {d : Nat} {v : Value} (hd : d < tm.size) (i : Nat) : (tm.setIfInBounds d v).getD i undef = if i = d then v else tm.getD i undef := by
  by_cases e : i = d
  · subst e
    simp [Array.getD_eq_getD_getElem?, Array.getElem?_setIfInBounds, hd]
  · have e' : ¬ d = i := fun h => e h.symm
    simp [Array.getD_eq_getD_getElem?, Array.getElem?_setIfInBounds, e, e']
theorem Inv.reslot (hi : Inv C I β F σ w tm) {t : List (Nat × SV)} {c : List (Nat × Nat × Bool × SV)} {tm' : Array Value} (size : tm'.size = σ.n) (slots : ∀ i, SVR (hpOf w) C.L I β σ.r (find t i) (tm'.getD i undef))
    (conds : ∀ k e u v, (k, e, u, v) ∈ c → tm'.getD e undef = .bool u → SVR (hpOf w) C.L I β σ.r v (tm'.getD k undef)) (undefs : ∀ k e u v, (k, e, u, v) ∈ c → tm'.getD e undef ≠ .bool u → tm'.getD k undef = undef) :
    Inv C I β F { t := t, c := c, r := σ.r, n := σ.n, b := σ.b, k := σ.k } w tm' where
  size := size
  slots := slots
  conds := conds
  undefs := undefs
  roots := hi.roots
  holes := hi.holes
  nodup := hi.nodup
  disj := hi.disj
  own := hi.own
  shared := hi.shared
  sub := hi.sub
  frame := hi.frame
  grow := hi.grow
  rest := hi.rest
  frames := hi.frames
theorem Inv.put (hi : Inv C I β F σ w tm) {d : Nat} {sv : SV} {v : Value} (hd : d < σ.n) (hs : SVR (hpOf w) C.L I β σ.r sv v) :
    Inv C I β F (σ.put d sv) w (tm.setIfInBounds d v) := by
  have hget := fun i => getD_set (tm := tm) (d := d) (v := v) (by rw [hi.size]; exact hd) i
  refine hi.reslot (by simp [hi.size]) (fun i => ?_) ?_ ?_
  · rw [hget]
    by_cases e : i = d
    · subst e; rw [find_cons_same]; simpa using hs
    · rw [find_cons_ne e]; simpa [e] using hi.slots i
  · intro k e u v' hm hd'
    obtain ⟨hm, hk, he⟩ := unhang_mem hm
    rw [hget] at hd' ⊢
    simp only [he, hk, if_false] at hd' ⊢
    exact hi.conds k e u v' hm hd'
  · intro k e u v' hm hd'
    obtain ⟨hm, hk, he⟩ := unhang_mem hm
    rw [hget] at hd' ⊢
    simp only [he, hk, if_false] at hd' ⊢
    exact hi.undefs k e u v' hm hd'
def AfterQ (C : Ctx) (I : Set') (β : Nat → Value) (σ σ' : St) (w : World) (sv : SV) (res : Result Next) : Prop :=
  ∃ v, res = .ok (.value v) w ∧ σ' = σ ∧ SVR (hpOf w) C.L I β σ.r sv v
theorem After0.q {σ' : St} {sv : SV} {s : Sem Value} (h : After0 C I β σ σ' w sv (s.run C.P w)) : AfterQ C I β σ σ' w sv ((do pure (.value (← s)) : Sem Next).run C.P w) := by
  obtain ⟨v, h1, h2, h3⟩ := h
  exact ⟨v, by simp only [Sem.run_bind, h1, Result.andThen_ok, Sem.run_pure], h2, h3⟩
theorem opQ_ok (hi : Inv C I β F σ w tm) {g : Option (Nat × Bool)} (hg : Gok tm g) {E' : Env} (hT : E'.T = C.T) (hG : E'.G = C.G) {f : FuncId} {o : Oper} {sv : SV} {σ' : St} (hq : quietO E'.T o = true) (he : opD E' f g o σ = some (true, sv, σ')) :
    AfterQ C I β σ σ' w sv ((execOp (evT tm) o).run C.P w) := by
  unfold opD at he
  unfold quietO at hq
  simp only [hT, hG] at he hq
  cases ho : o.op with
  | move x =>
    simp only [ho, Option.some.injEq, Prod.mk.injEq, true_and] at he
    obtain ⟨rfl, rfl⟩ := he
    unfold execOp; simp only [ho]
    exact ⟨_, rfl, rfl, arg_ok hi hg x⟩
  | assign x =>
    simp only [ho, Option.some.injEq, Prod.mk.injEq, true_and] at he
    obtain ⟨rfl, rfl⟩ := he
    unfold execOp; simp only [ho]
    exact ⟨_, rfl, rfl, arg_ok hi hg x⟩
  | pick c a b =>
    simp only [ho] at he
    have key : ∀ {a' b' : SV}, (evT tm c = .bool true → SVR (hpOf w) C.L I β σ.r a' (evT tm a)) → (evT tm c = .bool false → SVR (hpOf w) C.L I β σ.r b' (evT tm b)) → opPick (σ.arg C.G g c) a' b' σ = some (true, sv, σ') →
        AfterQ C I β σ σ' w sv ((execOp (evT tm) o).run C.P w) := by
      intro a' b' ha hb hp
      obtain ⟨u, h1, rfl, h2⟩ := opPick_ok hi (arg_ok hi hg c) ha hb hp
      refine ⟨_, ?_, rfl, h2⟩
      unfold execOp
      cases u <;> simp [ho, h1, asBool]
    cases c with
    | tmp d =>
      simp only at he
      refine key (fun h => ?_) (fun h => ?_) he
      · split
        · exact arg_ok hi (fun d' u' hq => by simp only [Option.some.injEq, Prod.mk.injEq] at hq; obtain ⟨rfl, rfl⟩ := hq; exact h) a
        · exact arg_ok hi hg a
      · split
        · exact arg_ok hi (fun d' u' hq => by simp only [Option.some.injEq, Prod.mk.injEq] at hq; obtain ⟨rfl, rfl⟩ := hq; exact h) b
        · exact arg_ok hi hg b
    | _ => exact key (fun _ => arg_ok hi hg a) (fun _ => arg_ok hi hg b) he
  | load t a =>
    simp only [ho] at he
    unfold execOp; simp only [ho]
    exact (opLoad_ok hi (arg_ok hi hg a) he).q
  | nilCheck x =>
    simp only [ho] at he
    obtain ⟨v, h1, rfl, h3⟩ := opNil_ok (ρ := evT tm) hi ho (arg_ok hi hg x) he
    rw [h1]
    exact ⟨v, rfl, rfl, h3⟩
  | binOp op t x y q =>
    simp only [ho] at he
    unfold execOp; simp only [ho]
    exact (opBin_ok hi x y (arg_ok hi hg x) (arg_ok hi hg y) he).q
  | unOp op t x =>
    simp only [ho] at he
    unfold execOp; simp only [ho]
    exact (opUn_ok hi (arg_ok hi hg x) he).q
  | convert s t x =>
    simp only [ho] at he hq
    unfold execOp; simp only [ho]
    have h0 : After0 C I β σ σ' w sv ((convert s t (evT tm x)).run C.P w) := by
      split at hq
      · rename_i k hut
        unfold opConv at he
        split at he
        · rename_i ds k' hus hut'
          split at he
          · rename_i l j n hx
            simp only [Option.some.injEq, Prod.mk.injEq, true_and] at he
            obtain ⟨rfl, rfl⟩ := he
            have ha := arg_ok hi hg x
            rw [hx] at ha
            rw [of_int (k := j) (n := n) ha, conv_int (und_ok hus) (und_ok hut')]
            exact hi.after0 svr_int
          · simp at he
        · rename_i h2; rw [hut] at h2; cases h2
        · rename_i h2; rw [hut] at h2; cases h2
        · rename_i h2; rw [hut] at h2; cases h2
        · rename_i h2; rw [hut] at h2; cases h2
        · simp at he
      · cases hq
    exact h0.q
  | slice t x lo hh mx =>
    simp only [ho] at he
    unfold execOp; simp only [ho]
    split at he
    · rename_i hz
      obtain ⟨k, hz⟩ := isZero_some (tm := tm) hz
      have hm := optR_map hi hg mx
      rw [hz] at hm ⊢
      exact (opSlice0_ok hi (arg_ok hi hg x) (optR_map hi hg lo) (optR_map hi hg hh) hm he).q
    · exact (opSlice_ok hi (arg_ok hi hg x) (optR_map hi hg lo) (optR_map hi hg hh) (optR_map hi hg mx) he).q
  | fieldAddr t x f =>
    simp only [ho] at he
    unfold execOp; simp only [ho]
    exact (opFld_ok hi (arg_ok hi hg x) he).q
  | field t x f =>
    simp only [ho] at he
    unfold execOp; simp only [ho]
    exact (opField_ok hi (arg_ok hi hg x) he).q
  | indexAddr t x i =>
    simp only [ho] at he
    unfold execOp; simp only [ho]
    exact (opIdxA_ok hi (arg_ok hi hg x) (arg_ok hi hg i) he).q
  | index t x i =>
    simp only [ho] at he
    unfold execOp; simp only [ho]
    exact (opIdx_ok hi (arg_ok hi hg x) (arg_ok hi hg i) he).q
  | extract x i =>
    simp only [ho] at he
    unfold execOp; simp only [ho]
    exact (opExtract_ok hi (arg_ok hi hg x) he).q
  | call c =>
    simp only [ho] at he hq
    cases hc : c.callee with
    | builtin b =>
      simp only [hc] at he hq
      obtain ⟨k, hk⟩ := exec_builtin (C := C) (tm := tm) ho hc w
      rw [hk]
      cases b with
      | len =>
        simp only at he
        split at he
        · rename_i x t hx ht
          have h1 : c.argTypes = #[t] := Array.toList_inj.1 ht
          rw [map_toList (f := evT tm) hx, h1]
          exact (opLen_ok hi (arg_ok hi hg x) he).q
        · simp at he
      | max =>
        simp only at he
        have hall := args_all hi hg c.args.toList
        cases hl : c.args.toList with
        | nil => simp [hl] at he
        | cons x xs =>
          rw [hl] at hall
          simp only [hl, List.map_cons] at he
          split at he
          · rename_i l k a r heq
            simp only [List.cons.injEq] at heq
            obtain ⟨h1, rfl⟩ := heq
            cases hm : maxL a (List.map (σ.arg C.G g) xs) k with
            | none => simp [hm] at he
            | some n =>
              simp only [hm, Option.some.injEq, Prod.mk.injEq, true_and] at he
              obtain ⟨rfl, rfl⟩ := he
              obtain ⟨a1, a2⟩ := hall
              rw [h1] at a1
              have e1 := of_int (k := k) (n := a) a1
              have e2 := maxL_ok hm a2
              have : (Builtin.max_ c.argTypes o.type (c.args.map (evT tm))).run C.P w = .ok (.int k n) w := by
                rw [map_toList (f := evT tm) hl]
                simp only [Builtin.max_, List.map_cons, e1]
                exact e2
              have h2 : After0 C I β σ σ w (.v false (.int k) n) ((Builtin.max_ c.argTypes o.type (c.args.map (evT tm))).run C.P w) := by rw [this]; exact hi.after0 svr_int
              exact h2.q
          · simp at he
      | min =>
        simp only at he
        have hall := args_all hi hg c.args.toList
        cases hl : c.args.toList with
        | nil => simp [hl] at he
        | cons x xs =>
          rw [hl] at hall
          simp only [hl, List.map_cons] at he
          split at he
          · rename_i l k a r heq
            simp only [List.cons.injEq] at heq
            obtain ⟨h1, rfl⟩ := heq
            cases hm : minL a (List.map (σ.arg C.G g) xs) k with
            | none => simp [hm] at he
            | some n =>
              simp only [hm, Option.some.injEq, Prod.mk.injEq, true_and] at he
              obtain ⟨rfl, rfl⟩ := he
              obtain ⟨a1, a2⟩ := hall
              rw [h1] at a1
              have e1 := of_int (k := k) (n := a) a1
              have e2 := minL_ok hm a2
              have : (Builtin.min_ c.argTypes o.type (c.args.map (evT tm))).run C.P w = .ok (.int k n) w := by
                rw [map_toList (f := evT tm) hl]
                simp only [Builtin.min_, List.map_cons, e1]
                exact e2
              have h2 : After0 C I β σ σ w (.v false (.int k) n) ((Builtin.min_ c.argTypes o.type (c.args.map (evT tm))).run C.P w) := by rw [this]; exact hi.after0 svr_int
              exact h2.q
          · simp at he
      | _ => simp at hq
    | _ => simp [hc] at hq
  | makeFunc fn first caps =>
    simp only [ho] at he
    cases fn with
    | func fid =>
      simp only [Option.some.injEq, Prod.mk.injEq, true_and] at he
      obtain ⟨rfl, rfl⟩ := he
      unfold execOp; simp only [ho, Instr.makeFunc]
      refine ⟨_, rfl, rfl, first.toList.map (evT tm), caps.toList.map (evT tm), ?_, lows (args_all hi hg _), lows (args_all hi hg _)⟩
      rw [map_toList (f := evT tm) (rfl : first.toList = _), map_toList (f := evT tm) (rfl : caps.toList = _)]
    | _ => simp at he
  | lookup _ _ _ _ => simp [ho] at he
  | _ => simp [ho] at hq
theorem total_quiet {T : Tab} {o : Oper} (h : total o = true) : quietO T o = true := by
  unfold total at h
  unfold quietO
  split at h <;> first | rfl | (simp_all; done) | (split at h <;> simp_all)
def Sat (C : Ctx) (σ : St) (w : World) (a : Act) : Prop := a.defers = [] ∧ ∃ I β F, Inv C I β F σ w a.tmps
theorem act_eval (a : Act) : a.eval = evT a.tmps := by funext x; cases x <;> rfl
theorem putK_ok {R : Type} {dst : Option Nat} {sv : SV} {v : Value} {K : St → Option R} {res : R} {a : Act} (hd : a.defers = []) (hi : Inv C I β F σ w a.tmps) (hs : SVR (hpOf w) C.L I β σ.r sv v) (he : putK σ dst sv K = some res) :
    ∃ σ', K σ' = some res ∧ Sat C σ' w (a.put dst v) ∧ ∀ i, some i ≠ dst → (a.put dst v).tmps.getD i undef = a.tmps.getD i undef := by
  cases dst with
  | none => exact ⟨σ, he, ⟨hd, I, β, F, hi⟩, fun _ _ => rfl⟩
  | some d =>
    simp only [putK] at he
    cases hb : Nat.blt d σ.n with
    | false => simp [hb] at he
    | true =>
      simp only [hb, force_eq] at he
      have hlt : d < σ.n := by simpa [Nat.blt_eq] using hb
      refine ⟨_, he, ⟨hd, I, β, F, hi.put hlt hs⟩, fun i hne => ?_⟩
      show (a.tmps.setIfInBounds d v).getD i undef = _
      rw [getD_set (by rw [hi.size]; exact hlt), if_neg (by rintro rfl; exact hne rfl)]
theorem Inv.putC (hi : Inv C I β F σ w tm) {d e : Nat} {u : Bool} {sv : SV} {v : Value} (hd : d < σ.n) (hde : d ≠ e) (h1 : tm.getD e undef = .bool u → SVR (hpOf w) C.L I β σ.r sv v) (h2 : tm.getD e undef ≠ .bool u → v = undef) :
    Inv C I β F (σ.putC d e u sv) w (tm.setIfInBounds d v) := by
  have hp := hi.put (sv := .x) (v := v) hd trivial
  have hget := fun i => getD_set (tm := tm) (d := d) (v := v) (by rw [hi.size]; exact hd) i
  refine hi.reslot hp.size hp.slots ?_ ?_
  · intro k e' u' v' hm hd'
    rcases List.mem_cons.1 hm with hm | hm
    · simp only [Prod.mk.injEq] at hm
      obtain ⟨rfl, rfl, rfl, rfl⟩ := hm
      rw [hget, if_neg (fun h => hde h.symm)] at hd'
      rw [hget, if_pos rfl]
      exact h1 hd'
    · exact hp.conds k e' u' v' hm hd'
  · intro k e' u' v' hm hd'
    rcases List.mem_cons.1 hm with hm | hm
    · simp only [Prod.mk.injEq] at hm
      obtain ⟨rfl, rfl, rfl, rfl⟩ := hm
      rw [hget, if_neg (fun h => hde h.symm)] at hd'
      rw [hget, if_pos rfl]
      exact h2 hd'
    · exact hp.undefs k e' u' v' hm hd'
theorem find_appT {i : Nat} : ∀ {a b : List (Nat × SV)}, (∃ sv, (i, sv) ∈ a ∧ find (appT a b) i = sv) ∨ find (appT a b) i = find b i
  | [], b => .inr rfl
  | (k, v) :: a, b => by
    simp only [appT, find]
    cases hb : Nat.beq k i with
    | true =>
      obtain rfl := Nat.eq_of_beq_eq_true hb
      exact .inl ⟨v, by simp, rfl⟩
    | false =>
      rcases find_appT (i := i) (a := a) (b := b) with ⟨sv, h1, h2⟩ | h
      · exact .inl ⟨sv, by simp [h1], h2⟩
      · exact .inr h
theorem knowC_mem {d : Nat} {b : Bool} {i : Nat} {sv : SV} : ∀ {l : List (Nat × Nat × Bool × SV)}, (i, sv) ∈ knowC d b l → (i, d, b, sv) ∈ l
  | [], h => by simp [knowC] at h
  | (k, e, w, v) :: l, h => by
    simp only [knowC] at h
    cases hb : (Nat.beq e d && boolEq w b) with
    | true =>
      rw [hb] at h
      simp only [Bool.and_eq_true] at hb
      obtain rfl := Nat.eq_of_beq_eq_true hb.1
      obtain rfl := boolEq_iff hb.2
      rcases List.mem_cons.1 h with h | h
      · simp only [Prod.mk.injEq] at h
        obtain ⟨rfl, rfl⟩ := h
        simp
      · have := knowC_mem (l := l) h
        simp [this]
    | false => rw [hb] at h; have := knowC_mem (l := l) h; simp [this]
theorem keepC_mem {d : Nat} {b : Bool} {x : Nat × Nat × Bool × SV} : ∀ {l : List (Nat × Nat × Bool × SV)}, x ∈ keepC d b l → x ∈ l
  | [], h => by simp [keepC] at h
  | (k, e, w, v) :: l, h => by
    simp only [keepC] at h
    cases hb : (Nat.beq e d && boolEq w b) with
    | true => rw [hb] at h; have := keepC_mem (l := l) h; simp [this]
    | false =>
      rw [hb] at h
      rcases List.mem_cons.1 h with h | h
      · simp [h]
      · have := keepC_mem (l := l) h; simp [this]
theorem Inv.know (hi : Inv C I β F σ w tm) {d : Nat} {b : Bool} (hd : tm.getD d undef = .bool b) : Inv C I β F (E.know d b σ) w tm := by
  refine hi.reslot hi.size (fun i => ?_) (fun k e u v hm => hi.conds k e u v (keepC_mem hm)) (fun k e u v hm => hi.undefs k e u v (keepC_mem hm))
  by_cases e : i = d
  · subst e
    rw [find_cons_same, hd]; exact svr_bool
  · rw [find_cons_ne e]
    rcases find_appT (i := i) (a := knowC d b σ.c) (b := σ.t) with ⟨sv, h1, h2⟩ | h
    · rw [h2]; exact hi.conds _ _ _ _ (knowC_mem h1) hd
    · rw [h]; exact hi.slots i
theorem hangs_mem {n e : Nat} {u : Bool} {v : SV} : ∀ {l : List (Nat × Nat × Bool × SV)}, hangs l n = some (e, u, v) → (n, e, u, v) ∈ l
  | [], h => by simp [hangs] at h
  | (k, e', w, v') :: l, h => by
    simp only [hangs] at h
    cases hb : Nat.beq k n with
    | true =>
      rw [hb] at h
      obtain rfl := Nat.eq_of_beq_eq_true hb
      simp at h
      obtain ⟨rfl, rfl, rfl⟩ := h
      simp
    | false => rw [hb] at h; have := hangs_mem (l := l) h; simp [this]
theorem br_some {R : Type} {g : Bool} {x y : Option R} {r : R} (h : br g x y = some r) : (g = true ∧ x = some r) ∨ (g = false ∧ y = some r) := by
  cases g
  · exact .inr ⟨rfl, h⟩
  · exact .inl ⟨rfl, h⟩
def Tested (tm : Array Value) (d : Nat) : Option Bool → Prop
  | some b => tm.getD d undef = .bool b
  | none => tm.getD d undef = undef
theorem test_ok {R : Type} : ∀ (n : Nat) {d : Nat} {σ : St} {K : Option Bool → St → Option R} {res : R}, Inv C I β F σ w tm → test n d σ K = some res → ∃ b σ', K b σ' = some res ∧ Inv C I β F σ' w tm ∧ Tested tm d b
  | 0, _, _, _, _, _, h => by simp [test] at h
  | n + 1, d, σ, K, res, hi, h => by
    simp only [test] at h
    split at h
    · rename_i l g hf
      have hg : tm.getD d undef = .bool g := by
        have := hi.slots d
        rw [hf] at this
        exact of_bool (b := g) this
      rcases br_some h with ⟨rfl, h⟩ | ⟨rfl, h⟩
      · exact ⟨_, _, h, hi.know hg, hg⟩
      · exact ⟨_, _, h, hi.know hg, hg⟩
    · split at h
      · rename_i e u l g hh
        have hm := hangs_mem hh
        obtain ⟨b, σ', h1, h2, h3⟩ := test_ok n hi h
        cases b with
        | none =>
          refine ⟨none, σ', h1, h2, hi.undefs _ _ _ _ hm ?_⟩
          simp only [Tested] at h3
          rw [h3]; simp [undef]
        | some b =>
          simp only at h1
          cases hb : boolEq b u with
          | true =>
            rw [hb] at h1
            obtain rfl := boolEq_iff hb
            have hg : tm.getD d undef = .bool g := of_bool (b := g) (hi.conds _ _ _ _ hm h3)
            rcases br_some h1 with ⟨rfl, h1⟩ | ⟨rfl, h1⟩
            · exact ⟨_, _, h1, h2.know hg, hg⟩
            · exact ⟨_, _, h1, h2.know hg, hg⟩
          | false =>
            rw [hb] at h1
            refine ⟨none, σ', h1, h2, hi.undefs _ _ _ _ hm ?_⟩
            simp only [Tested] at h3
            rw [h3]
            intro e
            simp only [Value.bool.injEq] at e
            subst e
            cases b <;> simp [boolEq] at hb
      · simp at h
    · simp at h
end
end Go.Proofs.YthlpjdjipchdkaaDoor.E

namespace Go.Proofs.YthlpjdjipchdkaaDoor.E
open Go
set_option linter.unusedSimpArgs false
set_option linter.unusedVariables false
section
variable {C : Ctx} {I : Set'} {β : Nat → Value} {F : Nat → List Nat} {σ : St} {w : World} {tm : Array Value}
theorem eqOk_agg {n : Nat} {t : TypeId} {τ : Ty} (he : eqOk C.T n t τ = true) : (∃ k, τ = .int k ∧ C.P.underlying t = some (.int k)) ∨ (τ = .bool ∧ C.P.underlying t = some .bool) ∨ (τ = .str ∧ C.P.underlying t = some .string) ∨
    (τ.isAgg = true ∧ ∃ fs, C.P.underlying t = some (.struct fs) ∧ ∃ m, n = m + 1 ∧ eqOkF C.T (eqOk C.T m) fs.toList 0 τ = true) := by
  cases n with
  | zero => simp [eqOk] at he
  | succ m =>
    unfold eqOk at he
    cases τ with
    | int k =>
      simp only at he
      split at he
      · rename_i j hu
        obtain rfl := kindEq_iff he
        exact .inl ⟨_, rfl, und_ok hu⟩
      · cases he
    | bool =>
      simp only at he
      split at he
      · rename_i hu; exact .inr (.inl ⟨rfl, und_ok hu⟩)
      · cases he
    | str =>
      simp only at he
      split at he
      · rename_i hu; exact .inr (.inr (.inl ⟨rfl, und_ok hu⟩))
      · cases he
    | unit =>
      simp only at he
      split at he
      · rename_i fs hu
        simp only [Bool.and_eq_true] at he
        exact .inr (.inr (.inr ⟨rfl, fs, und_ok hu, m, rfl, he.2⟩))
      · cases he
    | pair a b =>
      simp only at he
      split at he
      · rename_i fs hu
        simp only [Bool.and_eq_true] at he
        exact .inr (.inr (.inr ⟨rfl, fs, und_ok hu, m, rfl, he.2⟩))
      · cases he
    | _ => simp at he
theorem checkKey_run {h : Hp} {S : Set'} {l : Bool} (em : Bool) (w : World) : ∀ (n d : Nat), n ≤ d → ∀ (t : TypeId) (τ : Ty) (x : den τ) (cs : List Value) (X : List Nat), eqOk C.T n t τ = true → Rep h S l τ x cs X →
    (Instr.checkKey em d t (wrapV τ cs)).run C.P w = .ok () w
  | 0, d, _, t, τ, x, cs, X, he, _ => by simp [eqOk] at he
  | n + 1, 0, hd, _, _, _, _, _, _, _ => by omega
  | n + 1, d + 1, hd, t, τ, x, cs, X, he, hr => by
    rcases eqOk_agg he with ⟨k, rfl, hu⟩ | ⟨rfl, hu⟩ | ⟨rfl, hu⟩ | ⟨hagg, fs, hu, m, hm, hf⟩
    · obtain ⟨rfl, _⟩ := hr
      simp [Instr.checkKey, run_underlying hu, wrapV, Ty.isAgg]
    · obtain ⟨rfl, _⟩ := hr
      simp [Instr.checkKey, run_underlying hu, wrapV, Ty.isAgg]
    · obtain ⟨rfl, _⟩ := hr
      simp [Instr.checkKey, run_underlying hu, wrapV, Ty.isAgg]
    · obtain rfl : m = n := by omega
      rw [Instr.checkKey]
      have hw : wrapV τ cs = .agg cs.toArray := by simp [wrapV, hagg]
      rw [hw]
      simp only [Sem.run_bind, run_underlying hu, Result.andThen_ok]
      rw [← Array.forIn_toList]
      have key : ∀ (L : List Field) (o : Nat) (τ : Ty) (x : den τ) (X : List Nat), eqOkF C.T (eqOk C.T m) L o τ = true → Rep h S l τ x (cs.drop o) X → o ≤ cs.length →
          (forIn L PUnit.unit fun f __s =>
            if f.name ≠ "_" then do
              let __do_lift ← part f.type cs.toArray f.offset
              Instr.checkKey em d f.type __do_lift
              pure (ForInStep.yield PUnit.unit)
            else pure (ForInStep.yield PUnit.unit) : Sem PUnit).run C.P w = .ok PUnit.unit w := by
        intro L
        induction L with
        | nil => intro o τ x X _ _ _; simp
        | cons f L ih =>
          intro o τ x X he hx hox
          cases τ with
          | pair a b =>
            simp only [eqOkF, Bool.and_eq_true, Bool.not_eq_true'] at he
            obtain ⟨⟨⟨⟨⟨he1, he2⟩, he3⟩, he4⟩, he5⟩, he6⟩ := he
            obtain ⟨c1, c2, X1, X2, e1, e2, e3, e4⟩ := hx
            have ho := Nat.eq_of_beq_eq_true he1
            have hc1 := e3.len
            have hlc : cs.length = o + c1.length + c2.length := by have := congrArg List.length e1; simp at this; omega
            have hfit : fits C.T f.type a = true := by simp [fits, he2, he3]
            have hcc : (cs.drop o).take a.size = c1 := by rw [e1, ← hc1]; simp
            have hcc2 : cs.drop (o + a.size) = c2 := by rw [← List.drop_drop, e1, ← hc1]; simp
            have hne : f.name ≠ "_" := by simpa using he5
            have r1 := part_run (C := C) hfit (x := x.1) (X := X1) (h := h) (S := S) (l := l) (cs := cs) (o := o) (by omega) (by rw [hcc]; exact e3) w
            rw [hcc] at r1
            have r2 := checkKey_run em w m d (by omega) f.type a x.1 c1 X1 he4 e3
            simp only [List.forIn_cons, Sem.run_bind, hne, ne_eq, not_false_eq_true, if_true, Result.andThen_ok, ho, r1, r2, Sem.run_pure]
            exact ih (o + a.size) b x.2 X2 he6 (by rw [hcc2]; exact e4) (by omega)
          | _ => simp [eqOkF] at he
      have := key fs.toList 0 τ x X hf (by simpa using hr) (by omega)
      rw [this]; rfl
def SplitAt {k v : Ty} (K : den k → List Value → List Nat → Prop) (V : den v → List Value → List Nat → Prop) (y : den k) (es : List (den k × den v)) (ents : List MapEntry) (X : List Nat) (i : Nat) (u : Value) : Prop :=
  ∃ es1 x es2 en1 e en2 X1 Y X2 ck cv, es = es1 ++ x :: es2 ∧ ents = en1 ++ e :: en2 ∧ en1.length = i ∧ es1.length = i ∧ X = X1 ++ (Y ++ X2) ∧ RM K V (wrapV k) (wrapV v) es1 en1 X1 ∧ e.key = wrapV k ck ∧ e.val = wrapV v cv ∧ u = e.val ∧
    K x.1 ck [] ∧ V x.2 cv Y ∧ RM K V (wrapV k) (wrapV v) es2 en2 X2 ∧ (∀ z ∈ es1, denEq k y z.1 = false) ∧ denEq k y x.1 = true
theorem SplitAt.cons {k v : Ty} {K : den k → List Value → List Nat → Prop} {V : den v → List Value → List Nat → Prop} {y : den k} {x : den k × den v} {es : List (den k × den v)} {e : MapEntry} {ents : List MapEntry} {X1 X2 : List Nat} {i : Nat} {u : Value} {ck cv : List Value}
    (h : SplitAt K V y es ents X2 i u) (h1 : e.key = wrapV k ck) (h2 : e.val = wrapV v cv) (h3 : K x.1 ck []) (h4 : V x.2 cv X1) (h5 : denEq k y x.1 = false) : SplitAt K V y (x :: es) (e :: ents) (X1 ++ X2) (i + 1) u := by
  obtain ⟨es1, x', es2, en1, e', en2, Y1, Y, Y2, ck', cv', g1, g2, g3, g4, g5, g6, g7, g8, g9, g10, g11, g12, g13, g14⟩ := h
  refine ⟨x :: es1, x', es2, e :: en1, e', en2, X1 ++ Y1, Y, Y2, ck', cv', by rw [g1]; rfl, by rw [g2]; rfl, by simp [g3], by simp [g4], by rw [g5, List.append_assoc], ⟨e, en1, ck, cv, X1, Y1, rfl, rfl, h1, h2, h3, h4, g6⟩, g7, g8, g9, g10, g11, g12, ?_, g14⟩
  intro z hz
  rcases List.mem_cons.1 hz with rfl | hz
  · exact h5
  · exact g13 z hz
theorem sameNow_ok {h h' : Hp} {S S' : Set'} {l l' : Bool} {t : TypeId} {d : TypeDesc} {τ : Ty} {n : Nat} {x y : den τ} {cs ds : List Value} {X Y : List Nat} (he : eqOk C.T n t τ = true) (hu : C.P.underlying t = some d) (hn : τ.isAgg = false)
    (hx : Rep h S l τ x cs X) (hy : Rep h' S' l' τ y ds Y) : Instr.sameNow d (wrapV τ cs) (wrapV τ ds) = some (denEq τ x y) := by
  rcases eqOk_agg he with ⟨k, rfl, hu'⟩ | ⟨rfl, hu'⟩ | ⟨rfl, hu'⟩ | ⟨hagg, _⟩
  · rw [hu] at hu'; obtain rfl := Option.some.inj hu'
    obtain ⟨rfl, _⟩ := hx; obtain ⟨rfl, _⟩ := hy
    have : (x == y) = decide (x = y) := rfl
    simp [Instr.sameNow, wrapV, Ty.isAgg, denEq, this]
  · rw [hu] at hu'; obtain rfl := Option.some.inj hu'
    obtain ⟨rfl, _⟩ := hx; obtain ⟨rfl, _⟩ := hy
    cases x <;> cases y <;> rfl
  · rw [hu] at hu'; obtain rfl := Option.some.inj hu'
    obtain ⟨rfl, _⟩ := hx; obtain ⟨rfl, _⟩ := hy
    have e1 : ((⟨⟨x⟩⟩ : ByteArray) == ⟨⟨y⟩⟩) = (x == y) := by
      show ((⟨x⟩ : Array UInt8) == ⟨y⟩) = (x == y)
      rw [Bool.eq_iff_iff]; simp
    simp [Instr.sameNow, wrapV, Ty.isAgg, denEq, e1]
  · rw [hagg] at hn; cases hn
theorem find_run {h h' : Hp} {S S' : Set'} {l l' : Bool} {kt : TypeId} {k v : Ty} {y : den k} {cy : List Value} {V : den v → List Value → List Nat → Prop} (hk : eqOk C.T 20 kt k = true) (hy : Rep h' S' l' k y cy []) :
    ∀ {es : List (den k × den v)} {ents : List MapEntry} {X : List Nat}, RM (Rep h S l k) V (wrapV k) (wrapV v) es ents X →
      (∃ i u, (Instr.findKey kt (wrapV k cy) ents).run C.P w = .ok (some (i, u)) w ∧ SplitAt (Rep h S l k) V y es ents X i u) ∨
      ((Instr.findKey kt (wrapV k cy) ents).run C.P w = .ok none w ∧ ∀ z ∈ es, denEq k y z.1 = false) := by
  intro es ents X hr
  obtain ⟨d, hd⟩ : ∃ d, C.P.underlying kt = some d := by
    rcases eqOk_agg hk with ⟨k, rfl, hu⟩ | ⟨rfl, hu⟩ | ⟨rfl, hu⟩ | ⟨_, fs, hu, _⟩ <;> exact ⟨_, hu⟩
  cases hagg : k.isAgg with
  | false =>
    have key : ∀ {es : List (den k × den v)} {ents : List MapEntry} {X : List Nat} (j : Nat), RM (Rep h S l k) V (wrapV k) (wrapV v) es ents X →
        (∃ i u, Instr.findNow d (wrapV k cy) ents j = some (some (j + i, u)) ∧ SplitAt (Rep h S l k) V y es ents X i u) ∨ (Instr.findNow d (wrapV k cy) ents j = some none ∧ ∀ z ∈ es, denEq k y z.1 = false) := by
      intro es
      induction es with
      | nil =>
        rintro ents X j ⟨rfl, rfl⟩
        exact .inr ⟨rfl, by simp⟩
      | cons x es ih =>
        rintro ents X j ⟨e, r, ck, cv, X1, X2, rfl, rfl, h1, h2, h3, h4, h5⟩
        have hs := sameNow_ok (C := C) hk hd hagg hy h3
        unfold Instr.findNow
        rw [h1, hs]
        cases hq : denEq k y x.1 with
        | true => exact .inl ⟨0, e.val, rfl, [], x, es, [], e, r, [], X1, X2, ck, cv, rfl, rfl, rfl, rfl, rfl, ⟨rfl, rfl⟩, h1, h2, rfl, h3, h4, h5, by simp, hq⟩
        | false =>
          rcases ih (j + 1) h5 with ⟨i, u, g1, g2⟩ | ⟨g1, g2⟩
          · exact .inl ⟨i + 1, u, by simp only; rw [g1]; congr 3; omega, g2.cons h1 h2 h3 h4 hq⟩
          · exact .inr ⟨g1, fun z hz => by
              rcases List.mem_cons.1 hz with rfl | hz
              · exact hq
              · exact g2 z hz⟩
    rcases key 0 hr with ⟨i, u, g1, g2⟩ | ⟨g1, g2⟩
    · exact .inl ⟨i, u, by rw [Go.MapKept.run_findKey hd g1]; simp, g2⟩
    · exact .inr ⟨Go.MapKept.run_findKey hd g1, g2⟩
  | true =>
    have hst : (match C.P.underlying kt with | some (.array _ _) | some (.struct _) => true | _ => false) = true := by
      rcases eqOk_agg hk with ⟨k, rfl, hu⟩ | ⟨rfl, hu⟩ | ⟨rfl, hu⟩ | ⟨_, fs, hu, _⟩
      · cases hagg
      · cases hagg
      · cases hagg
      · rw [hu]
    rw [run_findKey_eq w hst]
    have key : ∀ {es : List (den k × den v)} {ents : List MapEntry} {X : List Nat} (j : Nat), RM (Rep h S l k) V (wrapV k) (wrapV v) es ents X →
        (∃ i u, (Instr.findAsking kt (wrapV k cy) ents j).run C.P w = .ok (some (j + i, u)) w ∧ SplitAt (Rep h S l k) V y es ents X i u) ∨ ((Instr.findAsking kt (wrapV k cy) ents j).run C.P w = .ok none w ∧ ∀ z ∈ es, denEq k y z.1 = false) := by
      intro es
      induction es with
      | nil =>
        rintro ents X j ⟨rfl, rfl⟩
        exact .inr ⟨rfl, by simp⟩
      | cons x es ih =>
        rintro ents X j ⟨e, r, ck, cv, X1, X2, rfl, rfl, h1, h2, h3, h4, h5⟩
        have hs := equal_pair (C := C) (w := w) hk hy h3
        unfold Instr.findAsking
        rw [h1, Sem.run_bind, hs]
        simp only [Result.andThen_ok]
        cases hq : denEq k y x.1 with
        | true => exact .inl ⟨0, e.val, by simp, [], x, es, [], e, r, [], X1, X2, ck, cv, rfl, rfl, rfl, rfl, rfl, ⟨rfl, rfl⟩, h1, h2, rfl, h3, h4, h5, by simp, hq⟩
        | false =>
          rcases ih (j + 1) h5 with ⟨i, u, g1, g2⟩ | ⟨g1, g2⟩
          · refine .inl ⟨i + 1, u, ?_, g2.cons h1 h2 h3 h4 hq⟩
            simp only [Bool.false_eq_true, if_false]
            rw [g1]; congr 3; omega
          · refine .inr ⟨?_, fun z hz => ?_⟩
            · simp only [Bool.false_eq_true, if_false]; exact g1
            · rcases List.mem_cons.1 hz with rfl | hz
              · exact hq
              · exact g2 z hz
    rcases key 0 hr with ⟨i, u, g1, g2⟩ | ⟨g1, g2⟩
    · exact .inl ⟨i, u, by rw [g1]; simp, g2⟩
    · exact .inr ⟨g1, g2⟩
theorem denEq_eq : ∀ {t : Ty} {a b : den t}, eqTy t = true → (denEq t a b = true ↔ a = b)
  | .int _, a, b, _ => by simp [denEq]
  | .bool, a, b, _ => by
    show boolEq a b = true ↔ a = b
    cases a <;> cases b <;> simp [boolEq]
  | .str, a, b, _ => by
    show (a == b) = true ↔ a = b
    simp
  | .unit, a, b, _ => by simp [denEq]
  | .pair s t, a, b, h => by
    simp only [eqTy, Bool.and_eq_true] at h
    simp only [denEq, Bool.and_eq_true]
    rw [denEq_eq h.1, denEq_eq h.2]
    exact Prod.ext_iff.symm
  | .arr _ _, _, _, h | .sl _ _, _, _, h | .ptr _ _, _, _, h | .ref _ _, _, _, h | .map _ _ _, _, _, h | .hole _, _, _, h | .raw _ _, _, _, h | .nils, _, _, h | .nilp, _, _, h => by simp [eqTy] at h
theorem zero_wrap {t : TypeId} {τ : Ty} (hf : fits C.T t τ = true) (hz : zeroB C.T t τ = true) : zOk τ = true ∧ ∃ j z, C.P.info? t = some j ∧ j.zero = some z ∧ z = wrapV τ (zeroC τ) := by
  obtain ⟨h1, j, z, h2, h3, h4⟩ := zero_ok hz
  refine ⟨h1, j, z, h2, h3, ?_⟩
  simp only [fits, Bool.and_eq_true] at hf
  have ha := hf.2
  unfold aggB und at ha
  cases hT : C.T t with
  | none => simp [hT] at ha
  | some i =>
    simp only [hT] at ha
    have hw := C.zag t i hT j z h2 h3
    unfold wrapV
    rw [← h4]
    cases hd : i.d <;> rw [hd] at ha hw <;> cases z <;> simp_all [wrapsB, Value.cells] <;> (first | (rw [← h4]; rfl) | (rw [← h4]))
theorem mfind_none {K V : Type} {eq : K → K → Bool} : ∀ {es : List (K × V)} {y : K}, (∀ z ∈ es, eq y z.1 = false) → mfind eq es y = none
  | [], _, _ => rfl
  | (k, v) :: es, y, h => by
    unfold mfind
    rw [h (k, v) (by simp)]
    exact mfind_none fun z hz => h z (by simp [hz])
theorem mfind_app {K V : Type} {eq : K → K → Bool} : ∀ {es1 : List (K × V)} {x : K × V} {es2 : List (K × V)} {y : K}, (∀ z ∈ es1, eq y z.1 = false) → eq y x.1 = true → mfind eq (es1 ++ x :: es2) y = some x.2
  | [], (k, v), es2, y, _, h => by
    show cond (eq y k) _ _ = _
    rw [h]; rfl
  | (k, v) :: es1, x, es2, y, h, hx => by
    show cond (eq y k) _ _ = _
    rw [h (k, v) (by simp)]
    exact mfind_app (fun z hz => h z (by simp [hz])) hx
theorem mput_none {K V : Type} {eq : K → K → Bool} : ∀ {es : List (K × V)} {y : K} {z : V}, (∀ z ∈ es, eq y z.1 = false) → mput eq es y z = es ++ [(y, z)]
  | [], _, _, _ => rfl
  | (k, v) :: es, y, z, h => by
    unfold mput
    rw [h (k, v) (by simp)]
    rw [cond_false, mput_none fun z hz => h z (by simp [hz])]; rfl
theorem mput_app {K V : Type} {eq : K → K → Bool} : ∀ {es1 : List (K × V)} {x : K × V} {es2 : List (K × V)} {y : K} {z : V}, (∀ z ∈ es1, eq y z.1 = false) → eq y x.1 = true → mput eq (es1 ++ x :: es2) y z = es1 ++ (y, z) :: es2
  | [], (k, v), es2, y, z, _, h => by
    show cond (eq y k) _ _ = _
    rw [h]; rfl
  | (k, v) :: es1, x, es2, y, z, h, hx => by
    show cond (eq y k) _ _ = _
    rw [h (k, v) (by simp)]
    show (k, v) :: mput eq (es1 ++ x :: es2) y z = (k, v) :: (es1 ++ (y, z) :: es2)
    rw [mput_app (es1 := es1) (fun z hz => h z (by simp [hz])) hx]
theorem mdel_none {K V : Type} {eq : K → K → Bool} : ∀ {es : List (K × V)} {y : K}, (∀ z ∈ es, eq y z.1 = false) → mdel eq es y = es
  | [], _, _ => rfl
  | (k, v) :: es, y, h => by
    unfold mdel
    rw [h (k, v) (by simp)]
    rw [cond_false, mdel_none fun z hz => h z (by simp [hz])]
theorem mdel_app {K V : Type} {eq : K → K → Bool} : ∀ {es1 : List (K × V)} {x : K × V} {es2 : List (K × V)} {y : K}, (∀ z ∈ es1, eq y z.1 = false) → eq y x.1 = true → mdel eq (es1 ++ x :: es2) y = es1 ++ es2
  | [], (k, v), es2, y, _, h => by
    show cond (eq y k) _ _ = _
    rw [h]; rfl
  | (k, v) :: es1, x, es2, y, h, hx => by
    show cond (eq y k) _ _ = _
    rw [h (k, v) (by simp)]
    show (k, v) :: mdel eq (es1 ++ x :: es2) y = (k, v) :: (es1 ++ es2)
    rw [mdel_app (es1 := es1) (fun z hz => h z (by simp [hz])) hx]
theorem RM.app {α β' : Type} {K : α → List Value → List Nat → Prop} {V : β' → List Value → List Nat → Prop} {wk wv : List Value → Value} : ∀ {xs ys : List (α × β')} {es fs X Y}, RM K V wk wv xs es X → RM K V wk wv ys fs Y → RM K V wk wv (xs ++ ys) (es ++ fs) (X ++ Y)
  | [], _, _, _, _, _, ⟨h1, h2⟩, h => by subst h1; subst h2; exact h
  | _ :: _, _, _, _, _, _, ⟨e, r, ck, cv, X1, X2, h1, h2, h3, h4, h5, h6, h7⟩, h => ⟨e, r ++ _, ck, cv, X1, X2 ++ _, by rw [h1]; rfl, by rw [h2, List.append_assoc], h3, h4, h5, h6, RM.app h7 h⟩
theorem RMz.of {α β' : Type} {q : α → Bool} {K : α → List Value → List Nat → Prop} {V : β' → List Value → List Nat → Prop} {wk wv : List Value → Value} {n : Nat} {x : α × β'} {es2 : List (α × β')} {e : MapEntry} {en2 : List MapEntry} {X2 : List Nat} {ck cv : List Value} :
    ∀ {es1 : List (α × β')} {en1 : List MapEntry} {X1 : List Nat}, (∀ z ∈ es1, q z.1 = false) → q x.1 = true → RM K V wk wv es1 en1 X1 → e.key = wk ck → e.val = wv cv → K x.1 ck [] → cv.length = n → RM K V wk wv es2 en2 X2 →
      RMz q K V wk wv n (es1 ++ x :: es2) (en1 ++ e :: en2) (X1 ++ X2) ∧ HoleE q e.val (es1 ++ x :: es2) (en1 ++ e :: en2)
  | [], en1, X1, _, hx, ⟨h1, h2⟩, e1, e2, e3, e4, e5 => by
    subst h1; subst h2
    refine ⟨⟨e, en2, ck, cv, [], X2, rfl, rfl, e1, e2, e3, ?_⟩, ?_⟩
    · rw [if_pos hx]; exact ⟨e4, rfl, e5⟩
    · show (if q x.1 then _ else _)
      rw [if_pos hx]
  | z :: es1, en1, X1, hz, hx, ⟨e', r, ck', cv', Y1, Y2, h1, h2, h3, h4, h5, h6, h7⟩, e1, e2, e3, e4, e5 => by
    subst h1; subst h2
    obtain ⟨g1, g2⟩ := RMz.of (q := q) (fun z hz' => hz z (by simp [hz'])) hx h7 e1 e2 e3 e4 e5
    have hq := hz z (by simp)
    refine ⟨⟨e', _, ck', cv', Y1, Y2 ++ X2, rfl, by rw [List.append_assoc], h3, h4, h5, ?_⟩, ?_⟩
    · rw [if_neg (by rw [hq]; simp)]; exact ⟨h6, g1⟩
    · show (if q z.1 then _ else _)
      rw [if_neg (by rw [hq]; simp)]; exact g2
theorem RMz.no {α β' : Type} {q : α → Bool} {K : α → List Value → List Nat → Prop} {V : β' → List Value → List Nat → Prop} {wk wv : List Value → Value} {n : Nat} {u : Value} :
    ∀ {es : List (α × β')} {en : List MapEntry} {X : List Nat}, (∀ z ∈ es, q z.1 = false) → RM K V wk wv es en X → RMz q K V wk wv n es en X ∧ HoleE q u es en
  | [], en, X, _, ⟨h1, h2⟩ => by subst h1; subst h2; exact ⟨⟨rfl, rfl⟩, trivial⟩
  | z :: es, en, X, hz, ⟨e', r, ck', cv', Y1, Y2, h1, h2, h3, h4, h5, h6, h7⟩ => by
    subst h1; subst h2
    obtain ⟨g1, g2⟩ := RMz.no (q := q) (n := n) (u := u) (fun z hz' => hz z (by simp [hz'])) h7
    have hq := hz z (by simp)
    refine ⟨⟨e', _, ck', cv', Y1, Y2, rfl, rfl, h3, h4, h5, ?_⟩, ?_⟩
    · rw [if_neg (by rw [hq]; simp)]; exact ⟨h6, g1⟩
    · show (if q z.1 then _ else _)
      rw [if_neg (by rw [hq]; simp)]; exact g2
end
end Go.Proofs.YthlpjdjipchdkaaDoor.E

namespace Go.Proofs.YthlpjdjipchdkaaDoor.E
open Go
set_option linter.unusedSimpArgs false
set_option linter.unusedVariables false
section
variable {C : Ctx} {I : Set'} {β : Nat → Value} {F : Nat → List Nat} {σ : St} {w : World} {tm : Array Value}
theorem br_or {R : Type} {g : Bool} {x y : Option R} {r : R} (h : br g x y = some r) : (g = true ∧ x = some r) ∨ (g = false ∧ y = some r) := by
  cases g
  · exact .inr ⟨rfl, h⟩
  · exact .inl ⟨rfl, h⟩
theorem Inv.take1 (hi : Inv C I β F σ w tm) {r name : Nat} {R R' Rn : Root} {v : Value} {A Y : List Nat} (hr : look σ.r r = some R) (hne : r ≠ name) (hfree : freeN name σ.r = true) (hlike : R.like R') (hsub : ∀ b, b ∈ A ∨ b ∈ Y → b ∈ F r)
    (hA : A.Nodup) (hY : Y.Nodup) (hAY : ∀ b ∈ A, b ∉ Y) (hRn : RootR (hpOf w) C.L I v Rn Y) (hHn : RootH (hpOf w) (updF β name v) (upd (σ.new name Rn).r r R') v Rn)
    (hR' : RootR (hpOf w) C.L I (β r) R' A) (hH' : RootH (hpOf w) (updF β name v) (upd (σ.new name Rn).r r R') (β r) R') :
    Inv C I (updF β name v) (updF (updF F r A) name Y) (setRoot (σ.new name Rn) r R') w tm := by
  have hadd : addRoots [(name, Rn)] σ = some (σ.new name Rn) := by simp only [addRoots, hfree]
  have hAd := addRoots_ok hadd (by simp)
  have hroot := hi.root hr
  have hlr : look (σ.new name Rn).r r = some R := by rw [hAd.old r (by simpa using hne)]; exact hr
  have hβr : updF β name v r = β r := updF_ne _ _ hne
  have hcase : ∀ {k R1}, look (upd (σ.new name Rn).r r R') k = some R1 → (k = r ∧ R1 = R') ∨ (k = name ∧ R1 = Rn) ∨ (k ≠ r ∧ k ≠ name ∧ look σ.r k = some R1) := by
    intro k R1 hl
    by_cases hkr : k = r
    · subst hkr
      rw [look_upd_same hlr] at hl
      exact .inl ⟨rfl, (Option.some.inj hl).symm⟩
    · rw [look_upd_ne hkr] at hl
      rcases hAd.cases hl with ⟨p, hp, rfl, rfl⟩ | ⟨h1, h2⟩
      · simp only [List.mem_singleton] at hp
        subst hp
        exact .inr (.inl ⟨rfl, rfl⟩)
      · exact .inr (.inr ⟨hkr, by simpa using h1, h2⟩)
  have hsame : ∀ k, k ∉ [(name, Rn)].map Prod.fst → Same β (updF β name v) σ.r (upd (σ.new name Rn).r r R') k := by
    intro k hk
    have hk' : k ≠ name := by simpa using hk
    by_cases hkr : k = r
    · subst hkr
      simp only [Same, hr, look_upd_same hlr]
      exact ⟨hlike, fun _ => updF_ne _ _ hk'⟩
    · simp only [Same, look_upd_ne hkr, hAd.old k hk]
      exact ⟨LikeO.refl _, fun _ => updF_ne _ _ hk'⟩
  have hFr : updF (updF F r A) name Y r = A := by rw [updF_ne _ _ hne, updF_same]
  have hFn : updF (updF F r A) name Y name = Y := updF_same _ _ _
  have hFo : ∀ k, k ≠ r → k ≠ name → updF (updF F r A) name Y k = F k := fun k h1 h2 => by rw [updF_ne _ _ h2, updF_ne _ _ h1]
  refine hi.many hAd hsame ?_ ?_
  · intro k R1 hl
    rcases hcase hl with ⟨rfl, rfl⟩ | ⟨rfl, rfl⟩ | ⟨h1, h2, h3⟩
    · rw [hβr, hFr]
      exact ⟨hR', hH', hA, fun b hb => hroot.own b (hsub b (.inl hb))⟩
    · rw [updF_same, hFn]
      exact ⟨hRn, hHn, hY, fun b hb => hroot.own b (hsub b (.inr hb))⟩
    · rw [updF_ne _ _ h2, hFo k h1 h2]
      have h4 := hi.root h3
      refine ⟨h4.rep, h4.holes.keep (fun _ _ => rfl) h4.rep (fun j hj => hsame j fun hjm => ?_), h4.nodup, h4.own⟩
      have hjm : j = name := by simpa using hjm
      rw [hAd.free k R1 (by simpa using h2) h3 j (by simp [hjm])] at hj; cases hj
  · have hin : ∀ {k R1}, look (upd (σ.new name Rn).r r R') k = some R1 → ∀ b ∈ updF (updF F r A) name Y k, (b ∈ F r ∧ (k = r ∧ b ∈ A ∨ k = name ∧ b ∈ Y)) ∨ (k ≠ r ∧ look σ.r k = some R1 ∧ b ∈ F k) := by
      intro k R1 hl b hb
      rcases hcase hl with ⟨rfl, rfl⟩ | ⟨rfl, rfl⟩ | ⟨h1, h2, h3⟩
      · rw [hFr] at hb
        exact .inl ⟨hsub b (.inl hb), .inl ⟨rfl, hb⟩⟩
      · rw [hFn] at hb
        exact .inl ⟨hsub b (.inr hb), .inr ⟨rfl, hb⟩⟩
      · rw [hFo k h1 h2] at hb
        exact .inr ⟨h1, h3, hb⟩
    intro k k' R1 R2 hkk hl hl' b hb hb'
    rcases hin hl b hb with ⟨c1, c2⟩ | ⟨c1, c2, c3⟩ <;> rcases hin hl' b hb' with ⟨d1, d2⟩ | ⟨d1, d2, d3⟩
    · rcases c2 with ⟨rfl, c2⟩ | ⟨rfl, c2⟩ <;> rcases d2 with ⟨rfl, d2⟩ | ⟨rfl, d2⟩
      · exact hkk rfl
      · exact hAY b c2 d2
      · exact hAY b d2 c2
      · exact hkk rfl
    · exact hi.disj k' r _ _ d1 d2 hr b d3 c1
    · exact hi.disj k r _ _ c1 c2 hr b c3 d1
    · exact hi.disj k k' _ _ hkk c2 d2 b c3 d3
theorem RMz.rm {α β' : Type} {q : α → Bool} {K : α → List Value → List Nat → Prop} {V : β' → List Value → List Nat → Prop} {wk wv : List Value → Value} {n : Nat} (hq : ∀ x, q x = false) :
    ∀ {es : List (α × β')} {en : List MapEntry} {X : List Nat}, RMz q K V wk wv n es en X → RM K V wk wv es en X
  | [], _, _, h => h
  | x :: es, _, _, ⟨e, r, ck, cv, X1, X2, h1, h2, h3, h4, h5, h6⟩ => by
    rw [if_neg (by rw [hq]; simp)] at h6
    exact ⟨e, r, ck, cv, X1, X2, h1, h2, h3, h4, h5, h6.1, RMz.rm hq h6.2⟩
theorem RM.weak {α β' : Type} {K : α → List Value → List Nat → Prop} {V V' : β' → List Value → List Nat → Prop} {wk wv : List Value → Value} (hv : ∀ x c X, V x c X → V' x c X) :
    ∀ {es : List (α × β')} {en : List MapEntry} {X : List Nat}, RM K V wk wv es en X → RM K V' wk wv es en X
  | [], _, _, h => h
  | _ :: _, _, _, ⟨e, r, ck, cv, X1, X2, h1, h2, h3, h4, h5, h6, h7⟩ => ⟨e, r, ck, cv, X1, X2, h1, h2, h3, h4, h5, hv _ _ _ h6, RM.weak hv h7⟩
theorem RMz.weak {α β' : Type} {q : α → Bool} {K : α → List Value → List Nat → Prop} {V : β' → List Value → List Nat → Prop} {wk wv : List Value → Value} {n : Nat} :
    ∀ {es : List (α × β')} {en : List MapEntry} {X : List Nat}, RMz q K V wk wv n es en X → RM K (fun _ _ _ => True) wk wv es en X
  | [], _, _, h => h
  | x :: es, _, _, ⟨e, r, ck, cv, X1, X2, h1, h2, h3, h4, h5, h6⟩ => by
    cases hq : q x.1 with
    | true =>
      rw [if_pos hq] at h6
      exact ⟨e, r, ck, cv, X1, X2, h1, h2, h3, h4, h5, trivial, RM.weak (fun _ _ _ _ => trivial) h6.2.2⟩
    | false =>
      rw [if_neg (by rw [hq]; simp)] at h6
      exact ⟨e, r, ck, cv, X1, X2, h1, h2, h3, h4, h5, trivial, RMz.weak h6.2⟩
theorem HoleE.at {α β' : Type} {q : α → Bool} {u : Value} {x : α × β'} {es2 : List (α × β')} {e : MapEntry} {en2 : List MapEntry} : ∀ {es1 : List (α × β')} {en1 : List MapEntry}, es1.length = en1.length → (∀ z ∈ es1, q z.1 = false) → q x.1 = true → HoleE q u (es1 ++ x :: es2) (en1 ++ e :: en2) → e.val = u
  | [], [], _, _, hx, h => by
    have h : (if q x.1 then e.val = u else HoleE q u es2 en2) := h
    rw [if_pos hx] at h; exact h
  | z :: es1, e' :: en1, hl, hz, hx, h => by
    have h : (if q z.1 then e'.val = u else HoleE q u (es1 ++ x :: es2) (en1 ++ e :: en2)) := h
    rw [if_neg (by rw [hz z (by simp)]; simp)] at h
    exact HoleE.at (by simpa using hl) (fun y hy => hz y (by simp [hy])) hx h
  | [], _ :: _, hl, _, _, _ => by simp at hl
  | _ :: _, [], hl, _, _, _ => by simp at hl
theorem okSV_ok {h : Hp} {L I : Set'} {β : Nat → Value} {ρ : List (Nat × Root)} {sv : SV} {v : Value} (ok b : Bool) (hs : SVR0 h L I β ρ sv v) : SVR h L I β ρ (okSV ok sv b) (if ok then .tuple #[v, .bool b] else v) := by
  cases ok with
  | true => exact ⟨[v, .bool b], rfl, hs, ⟨[.bool b], ⟨rfl, rfl⟩, rfl, Holes.solid rfl⟩, trivial⟩
  | false => exact SVR_of0 hs
theorem SVR_to0 {h : Hp} {L I : Set'} {β : Nat → Value} {ρ : List (Nat × Root)} {l : Bool} {t : Ty} {a : den t} {v : Value} (hs : SVR h L I β ρ (mkv l t a) v) : SVR0 h L I β ρ (mkv l t a) v := hs
theorem mapOk_ok {t : TypeId} {k v : Ty} (h : mapOk C.T t k v = true) : ∃ kt vt, C.P.underlying t = some (.map kt vt) ∧ eqTy k = true ∧ eqOk C.T 20 kt k = true ∧ fits C.T vt v = true ∧
    ((∃ o u, v = .ref o u ∧ zeroIs C.T vt [.pointer none] = true) ∨ ((∀ o u, v ≠ .ref o u) ∧ zeroB C.T vt v = true)) := by
  unfold mapOk at h
  split at h
  · rename_i kt vt hu
    simp only [Bool.and_eq_true] at h
    obtain ⟨⟨⟨⟨h1, h2⟩, h3⟩, h4⟩, h5⟩ := h
    refine ⟨kt, vt, und_ok hu, h1, h2, h4, ?_⟩
    split at h5
    · exact .inl ⟨_, _, rfl, h5⟩
    · rename_i hn
      exact .inr ⟨fun o u e => hn o u e, h5⟩
  · cases h
theorem run_getMap {b : Nat} {es : Array MapEntry} {c : Nat} (hb : hpOf w b = some (.map es c)) : (getObj b).run C.P w = .ok (.map es c) w := by
  have : w.heap[b]? = some (.map es c) := hb
  simp [getObj, Sem.run, this]
theorem lookup_run {h' : Hp} {S' : Set'} {l' : Bool} {t kt vt : TypeId} {k : Ty} {y : den k} {cy : List Value} {b : Nat} {ents : Array MapEntry} {clock : Nat} {r : Option (Nat × Value)} (hu : C.P.underlying t = some (.map kt vt)) (hk : eqOk C.T 20 kt k = true)
    (hy : Rep h' S' l' k y cy []) (hb : hpOf w b = some (.map ents clock)) (hf : (Instr.findKey kt (wrapV k cy) ents.toList).run C.P w = .ok r w) {z : Value} (hz : r = none → ∃ j, C.P.info? vt = some j ∧ j.zero = some z) (ok : Bool) :
    (Instr.lookup t (.map (some b)) (wrapV k cy) ok).run C.P w = .ok (if ok then .tuple #[match r with | some (_, u) => u | none => z, .bool r.isSome] else match r with | some (_, u) => u | none => z) w := by
  have hck := checkKey_run (C := C) ents.isEmpty w 20 10000 (by omega) kt k y cy [] hk hy
  unfold Instr.lookup
  simp only [Sem.run_bind, run_underlying hu, Result.andThen_ok, run_getMap hb, Sem.run_pure, hck, hf]
  cases r with
  | some p =>
    obtain ⟨i, u⟩ := p
    cases ok <;> simp
  | none =>
    obtain ⟨j, h1, h2⟩ := hz rfl
    cases ok <;> simp [zeroValue, typeInfo, h1, h2]
theorem zero_ptr {vt : TypeId} {v : Ty} (hf : fits C.T vt v = true) (hv : v.isAgg = false) (hz : zeroIs C.T vt [.pointer none] = true) : ∃ j, C.P.info? vt = some j ∧ j.zero = some (.pointer none) := by
  obtain ⟨j, z, h2, h3, h4⟩ := zeroIs_ok hz
  refine ⟨j, h2, ?_⟩
  simp only [fits, Bool.and_eq_true] at hf
  have ha := hf.2
  unfold aggB und at ha
  cases hT : C.T vt with
  | none => simp [hT] at ha
  | some i =>
    simp only [hT] at ha
    have hw := C.zag vt i hT j z h2 h3
    rw [h3]
    cases hd : i.d <;> rw [hd] at ha hw <;> cases z <;> simp_all [wrapsB, Value.cells]
theorem ref_lent {h : Hp} {S : Set'} {o : Bool} {u : Ty} {x : den u} {cs : List Value} {X : List Nat} (hr : Rep h S true (.ref o u) x cs X) : Rep h S true (.ref false u) x cs [] := by
  obtain ⟨b, of, arr, E', fr, X', h1, h2, h3, h4, h5⟩ := hr
  simp only [Bool.not_true, Bool.and_false, Bool.false_eq_true, if_false] at h5
  obtain ⟨g1, rfl, rfl⟩ := h5
  exact ⟨b, of, arr, E', fr, [], h1, h2, h3, by simpa using h4, by simp [g1]⟩
theorem look0K_ok {R : Type} (hi : Inv C I β F σ w tm) {name r : Nat} {ok l : Bool} {k v : Ty} {es : List (den k × den v)} {y : den k} {t : TypeId} {vy : Value} {K : SV → St → Option R} {res : R}
    (hl : look σ.r r = some (.map l k v es none)) (hm : mapOk C.T t k v = true) (hy : ∃ h' S' l' cy, Rep h' S' l' k y cy [] ∧ vy = wrapV k cy) (he : look0K name r ok l k v es y σ K = some res) :
    ∃ σ' sv v β' F', K sv σ' = some res ∧ (Instr.lookup t (β r) vy ok).run C.P w = .ok v w ∧ Inv C I β' F' σ' w tm ∧ SVR (hpOf w) C.L I β' σ'.r sv v := by
  obtain ⟨h', S', l', cy, hy, rfl⟩ := hy
  obtain ⟨kt, vt, hu, hke, hk, hfit, hzero⟩ := mapOk_ok hm
  have hroot := hi.root hl
  obtain ⟨b, ents, clock, X', hv, hb, hB, hrm0, hF⟩ := hroot.rep
  have hrm := RMz.rm (fun _ => rfl) hrm0
  clear hrm0
  have hnd := hroot.nodup
  rw [hF] at hnd
  obtain ⟨hbX, hX'⟩ := List.nodup_cons.1 hnd
  have hfind := find_run (w := w) (C := C) hk hy hrm
  unfold look0K at he
  split at he
  · -- slices of its own
    rename_i u es'
    split at he
    · rename_i hc
      simp only [Bool.and_eq_true, Bool.not_eq_true'] at hc
      obtain ⟨hfree, hne⟩ := hc
      have hne : r ≠ name := by rintro rfl; simp at hne
      obtain ⟨hzok, j, z, hz1, hz2, hz3⟩ : zOk (.sl true u) = true ∧ ∃ j z, C.P.info? vt = some j ∧ j.zero = some z ∧ z = wrapV (.sl true u) (zeroC (.sl true u)) := by
        rcases hzero with ⟨o, u', e, _⟩ | ⟨_, hz⟩
        · cases e
        · exact zero_wrap hfit hz
      have hz3 : z = .slice none 0 0 := hz3
      rcases hfind with ⟨i, uu, hrun, es1, x, es2, en1, e, en2, X1, Y, X2, ck, cv, g1, g2, g3, g4, rfl, g6, g7, g8, rfl, g10, g11, g12, g13, g14⟩ | ⟨hrun, hno⟩
      · have hfx : mfind (denEq k) es' y = some x.2 := by rw [g1]; exact mfind_app g13 g14
        rw [hfx] at he
        have hcv : cv = [e.val] := by
          obtain ⟨a, c, e1, _⟩ := g11
          rw [g8, e1]; rfl
        rw [hcv] at g11
        have hcvl : cv.length = (Ty.sl true u).size := by rw [hcv]; rfl
        obtain ⟨z1, z2⟩ := RMz.of (V := Rep (hpOf w) (Sx C.L I l) false (.sl true u)) (wv := wrapV (.sl true u)) (q := denEq k y) g13 g14 g6 g7 g8 g10 hcvl g12
        rw [← g1, ← g2] at z1 z2
        obtain ⟨n1, n2, n3⟩ := List.nodup_append.1 hX'
        obtain ⟨n4, n5, n6⟩ := List.nodup_append.1 n2
        have hinv := hi.take1 (name := name) (R' := .map l k (.sl true u) es' (some (y, name))) (Rn := .arr false l u x.2) (v := e.val) (A := b :: (X1 ++ X2)) (Y := Y) hl hne hfree trivial
          (fun b' hb' => by
            rw [hF]
            simp only [List.mem_cons, List.mem_append] at hb' ⊢
            rcases hb' with (h | h | h) | h
            · exact .inl h
            · exact .inr (.inl h)
            · exact .inr (.inr (.inr h))
            · exact .inr (.inr (.inl h)))
          (List.nodup_cons.2 ⟨fun h => hbX (by
            simp only [List.mem_append] at h ⊢
            rcases h with h | h
            · exact .inl h
            · exact .inr (.inr h)), List.nodup_append.2 ⟨n1, n5, fun a ha c hc => n3 a ha c (by simp [hc])⟩⟩) n4
          (fun b' hb' hY => by
            rcases List.mem_cons.1 hb' with rfl | hb'
            · exact hbX (by simp [hY])
            · rcases List.mem_append.1 hb' with h | h
              · exact n3 b' h b' (by simp [hY]) rfl
              · exact n6 b' hY b' h rfl)
          ⟨g11, fun h => by cases h⟩ trivial ⟨b, ents, clock, X1 ++ X2, hv, hb, hB, z1, rfl⟩ (fun _ => ⟨b, ents, clock, hv, hb, by rw [updF_same]; exact z2⟩)
        refine ⟨_, _, _, _, _, he, ?_, hinv, okSV_ok ok true (v := e.val) ?_⟩
        · rw [hv, lookup_run (z := undef) hu hk hy hb hrun (fun h => by cases h)]; rfl
        · show ∃ f l t xs, _
          refine ⟨false, l, u, x.2, ?_, by rw [updF_same]⟩
          simp only [setRoot]
          rw [look_upd_ne (Ne.symm hne)]
          exact look_cons_same
      · have hfx : mfind (denEq k) es' y = none := mfind_none hno
        rw [hfx] at he
        obtain ⟨z1, z2⟩ := RMz.no (q := denEq k y) (n := (Ty.sl true u).size) (u := z) hno hrm
        have hinv := hi.take1 (name := name) (R' := .map l k (.sl true u) es' (some (y, name))) (Rn := .arr false l u []) (v := z) (A := b :: X') (Y := []) hl hne hfree trivial
          (fun b' hb' => by rw [hF]; simpa using hb') hnd List.nodup_nil (by simp)
          ⟨by rw [hz3]; exact ⟨none, 0, rfl, Nat.le_refl _, .inl ⟨rfl, rfl, rfl, rfl⟩⟩, fun h => by cases h⟩ trivial ⟨b, ents, clock, X', hv, hb, hB, z1, rfl⟩ (fun _ => ⟨b, ents, clock, hv, hb, by rw [updF_same]; exact z2⟩)
        refine ⟨_, _, _, _, _, he, ?_, hinv, okSV_ok ok false (v := z) ?_⟩
        · rw [hv, lookup_run hu hk hy hb hrun (fun _ => ⟨j, hz1, hz2⟩)]; rfl
        · show ∃ f l t xs, _
          refine ⟨false, l, u, [], ?_, by rw [updF_same]⟩
          simp only [setRoot]
          rw [look_upd_ne (Ne.symm hne)]
          exact look_cons_same
    · cases he
  · -- pointers
    rename_i u es'
    rcases hfind with ⟨i, uu, hrun, es1, x, es2, en1, e, en2, X1, Y, X2, ck, cv, g1, g2, g3, g4, rfl, g6, g7, g8, rfl, g10, g11, g12, g13, g14⟩ | ⟨hrun, hno⟩
    · have hfx : mfind (denEq k) es' y = some x.2 := by rw [g1]; exact mfind_app g13 g14
      rw [hfx] at he
      simp only [Option.isSome_some] at he
      rcases br_or he with ⟨_, he⟩ | ⟨h, _⟩
      · split at he
        · rename_i hc
          simp only [Bool.and_eq_true, Bool.not_eq_true'] at hc
          obtain ⟨⟨hfree, hne⟩, hsol⟩ := hc
          have hne : r ≠ name := by rintro rfl; simp at hne
          have hcv : cv = [e.val] := by
            obtain ⟨b1, o1, arr1, E1, fr1, Z1, e1, _⟩ := g11
            rw [g8, e1]; rfl
          rw [hcv] at g11
          have hcvl : cv.length = (Ty.ref true u).size := by rw [hcv]; rfl
          obtain ⟨z1, z2⟩ := RMz.of (V := Rep (hpOf w) (Sx C.L I l) false (.ref true u)) (wv := wrapV (.ref true u)) (q := denEq k y) g13 g14 g6 g7 g8 g10 hcvl g12
          rw [← g1, ← g2] at z1 z2
          obtain ⟨n1, n2, n3⟩ := List.nodup_append.1 hX'
          obtain ⟨n4, n5, n6⟩ := List.nodup_append.1 n2
          have g11' := g11
          obtain ⟨bb, o1, arr1, E1, fr1, Z1, f1, f2, f3, f4, f5⟩ := g11'
          simp only [Bool.not_false, Bool.and_true, if_true] at f5
          obtain ⟨f5, f6, rfl, f7⟩ := f5
          simp only [List.cons.injEq, and_true] at f1
          have hinv := hi.take1 (name := name) (R' := .map l k (.ref true u) es' (some (y, name))) (Rn := .box l u x.2) (v := e.val) (A := b :: (X1 ++ X2)) (Y := Y) hl hne hfree trivial
            (fun b' hb' => by
              rw [hF]
              simp only [List.mem_cons, List.mem_append] at hb' ⊢
              rcases hb' with (h | h | h) | h
              · exact .inl h
              · exact .inr (.inl h)
              · exact .inr (.inr (.inr h))
              · exact .inr (.inr (.inl h)))
            (List.nodup_cons.2 ⟨fun h => hbX (by
              simp only [List.mem_append] at h ⊢
              rcases h with h | h
              · exact .inl h
              · exact .inr (.inr h)), List.nodup_append.2 ⟨n1, n5, fun a ha c hc => n3 a ha c (by simp [hc])⟩⟩) n4
            (fun b' hb' hY => by
              rcases List.mem_cons.1 hb' with rfl | hb'
              · exact hbX (by simp [hY])
              · rcases List.mem_append.1 hb' with h | h
                · exact n3 b' h b' (by simp [hY]) rfl
                · exact n6 b' hY b' h rfl)
            g11 ⟨bb, arr1, E1, fr1, f1, f2, Holes.solid hsol⟩ ⟨b, ents, clock, X1 ++ X2, hv, hb, hB, z1, rfl⟩ (fun _ => ⟨b, ents, clock, hv, hb, by rw [updF_same]; exact z2⟩)
          refine ⟨_, _, _, _, _, he, ?_, hinv, okSV_ok ok true (v := e.val) ?_⟩
          · rw [hv, lookup_run (z := undef) hu hk hy hb hrun (fun h => by cases h)]; rfl
          · refine ⟨.box l u x.2, 0, u, ?_, rfl, trivial, ?_⟩
            · simp only [setRoot]
              rw [look_upd_ne (Ne.symm hne)]
              exact look_cons_same
            · rw [updF_same, f1]; rfl
        · cases he
      · cases h
    · have hfx : mfind (denEq k) es' y = none := mfind_none hno
      rw [hfx] at he
      simp only [Option.isSome_none] at he
      rcases br_or he with ⟨h, _⟩ | ⟨_, he⟩
      · cases h
      · have hz : zeroIs C.T vt [.pointer none] = true := by
          rcases hzero with ⟨o, u', _, hz⟩ | ⟨h, _⟩
          · exact hz
          · exact absurd rfl (h _ _)
        obtain ⟨j, hz1, hz2⟩ := zero_ptr hfit rfl hz
        refine ⟨_, _, _, _, _, he, ?_, hi, okSV_ok ok false (v := .pointer none) rfl⟩
        rw [hv, lookup_run hu hk hy hb hrun (fun _ => ⟨j, hz1, hz2⟩)]; rfl
  · cases he
  · -- values
    rename_i hn1 hn2 hn3
    split at he
    · rename_i hflat
      have hsol := flat_solid hflat
      have hzero : zeroB C.T vt v = true := by
        rcases hzero with ⟨o, u', e, hz⟩ | ⟨_, hz⟩
        · subst e
          cases o
          · exact (hn3 _ _ rfl HEq.rfl).elim
          · exact (hn2 _ _ rfl HEq.rfl).elim
        · exact hz
      obtain ⟨hzok, j, z, hz1, hz2, hz3⟩ := zero_wrap hfit hzero
      rcases hfind with ⟨i, uu, hrun, es1, x, es2, en1, e, en2, X1, Y, X2, ck, cv, g1, g2, g3, g4, rfl, g6, g7, g8, rfl, g10, g11, g12, g13, g14⟩ | ⟨hrun, hno⟩
      · have hfx : mfind (denEq k) es y = some x.2 := by rw [g1]; exact mfind_app g13 g14
        rw [hfx] at he
        obtain ⟨_, g11⟩ := Rep.flat hflat g11
        refine ⟨_, _, _, _, _, he, ?_, hi, okSV_ok ok true (v := e.val) ?_⟩
        · rw [hv, lookup_run (z := undef) hu hk hy hb hrun (fun h => by cases h)]; rfl
        · rw [g8]
          exact SVR_to0 (mkv_ok g11 (Holes.solid hsol))
      · have hfx : mfind (denEq k) es y = none := mfind_none hno
        rw [hfx] at he
        refine ⟨_, _, _, _, _, he, ?_, hi, okSV_ok ok false (v := z) ?_⟩
        · rw [hv, lookup_run hu hk hy hb hrun (fun _ => ⟨j, hz1, hz2⟩)]; rfl
        · rw [hz3]
          exact SVR_to0 (mkv_ok (Rep.dflt hzok true) (Holes.solid hsol))
    · cases he
theorem lookK_ok {R : Type} (hi : Inv C I β F σ w tm) {d : Option Nat} {t : TypeId} {ok : Bool} {a y : SV} {va vy : Value} {K : SV → St → Option R} {res : R} (ha : SVR (hpOf w) C.L I β σ.r a va) (hy : SVR (hpOf w) C.L I β σ.r y vy)
    (he : lookK C.T d t ok a y σ K = some res) :
    ∃ σ' sv v β' F', K sv σ' = some res ∧ (Instr.lookup t va vy ok).run C.P w = .ok v w ∧ Inv C I β' F' σ' w tm ∧ SVR (hpOf w) C.L I β' σ'.r sv v := by
  unfold lookK at he
  split at he
  · -- a map that is lent
    rename_i l o k v es
    split at he
    · rename_i y' hty hm
      obtain ⟨cy, hcy, rfl⟩ := toV_ok hty hy
      obtain ⟨kt, vt, hu, hke, hk, hfit, hzero⟩ := mapOk_ok hm
      obtain ⟨cs, hr, rfl, hH0⟩ := ha
      clear hH0
      obtain ⟨b, ents, clock, X', rfl, hb, hB, hrm, hx⟩ := hr
      simp only [Bool.not_true, Bool.and_false, Bool.false_eq_true, if_false] at hx
      obtain ⟨hSb, _, rfl⟩ := hx
      simp only [Bool.true_or] at hrm
      have hwr : wrapV (.map o k v) [Value.map (some b)] = .map (some b) := rfl
      rw [hwr]
      have hfind := find_run (w := w) (C := C) hk hcy hrm
      split at he
      · -- pointers
        rename_i o' u es'
        have hz : zeroIs C.T vt [.pointer none] = true := by
          rcases hzero with ⟨_, _, _, hz⟩ | ⟨h, _⟩
          · exact hz
          · exact absurd rfl (h _ _)
        obtain ⟨j, hz1, hz2⟩ := zero_ptr hfit rfl hz
        rcases hfind with ⟨i, uu, hrun, es1, x, es2, en1, e, en2, X1, Y, X2, ck, cv, g1, g2, g3, g4, g5, g6, g7, g8, rfl, g10, g11, g12, g13, g14⟩ | ⟨hrun, hno⟩
        · have hfx : mfind (denEq k) es' y' = some x.2 := by rw [g1]; exact mfind_app g13 g14
          rw [hfx] at he
          simp only [Option.isSome_some] at he
          rcases br_or he with ⟨_, he⟩ | ⟨h, _⟩
          · refine ⟨_, _, _, _, _, he, ?_, hi, okSV_ok ok true (v := e.val) ?_⟩
            · rw [lookup_run (z := undef) hu hk hcy hb hrun (fun h => by cases h)]; rfl
            · have hcv : cv = [e.val] := by
                obtain ⟨b1, o1, arr1, E1, fr1, Z1, e1, _⟩ := g11
                rw [g8, e1]; rfl
              rw [hcv] at g11
              exact ref_lent g11
          · cases h
        · have hfx : mfind (denEq k) es' y' = none := mfind_none hno
          rw [hfx] at he
          simp only [Option.isSome_none] at he
          rcases br_or he with ⟨h, _⟩ | ⟨_, he⟩
          · cases h
          · refine ⟨_, _, _, _, _, he, ?_, hi, okSV_ok ok false (v := .pointer none) rfl⟩
            rw [lookup_run hu hk hcy hb hrun (fun _ => ⟨j, hz1, hz2⟩)]; rfl
      · rename_i hn
        split at he
        · rename_i hc
          simp only [Bool.and_eq_true] at hc
          have hzero : zeroB C.T vt v = true := by
            rcases hzero with ⟨o', u', e, hz⟩ | ⟨_, hz⟩
            · subst e; exact (hn _ _ _ rfl HEq.rfl).elim
            · exact hz
          obtain ⟨hzok, j, z, hz1, hz2, hz3⟩ := zero_wrap hfit hzero
          rcases hfind with ⟨i, uu, hrun, es1, x, es2, en1, e, en2, X1, Y, X2, ck, cv, g1, g2, g3, g4, g5, g6, g7, g8, rfl, g10, g11, g12, g13, g14⟩ | ⟨hrun, hno⟩
          · have hfx : mfind (denEq k) es y' = some x.2 := by rw [g1]; exact mfind_app g13 g14
            rw [hfx] at he
            have hY : Y = [] := Rep.lentX g11
            subst hY
            refine ⟨_, _, _, _, _, he, ?_, hi, okSV_ok ok true (v := e.val) ?_⟩
            · rw [lookup_run (z := undef) hu hk hcy hb hrun (fun h => by cases h)]; rfl
            · rw [g8]
              exact SVR_to0 (mkv_ok g11 (Holes.solid hc.2))
          · have hfx : mfind (denEq k) es y' = none := mfind_none hno
            rw [hfx] at he
            refine ⟨_, _, _, _, _, he, ?_, hi, okSV_ok ok false (v := z) ?_⟩
            · rw [lookup_run hu hk hcy hb hrun (fun _ => ⟨j, hz1, hz2⟩)]; rfl
            · rw [hz3]
              exact SVR_to0 (mkv_ok (Rep.dflt hzok true) (Holes.solid hc.2))
        · cases he
    · cases he
  · -- a map of the call's own
    rename_i r
    obtain ⟨l0, k0, v0, es0, z0, h0, rfl⟩ := ha
    split at he
    · rename_i l k v es z d hl
      split at he
      · rename_i y' hty hm
        obtain ⟨cy, hcy, rfl⟩ := toV_ok hty hy
        split at he
        · exact look0K_ok hi hl hm ⟨_, _, _, cy, hcy, rfl⟩ he
        · rename_i y2 j
          have he0 := br_or he
          clear he
          rcases he0 with ⟨hq, he⟩ | ⟨_, he⟩
          · -- what was taken out
            simp only [Bool.and_eq_true] at hq
            obtain ⟨hyy, hfx⟩ := hq
            split at he
            · rename_i Rj hj
              obtain ⟨kt, vt, hu, hke, hk, hfit, hzero⟩ := mapOk_ok hm
              have hroot := hi.root hl
              obtain ⟨b, ents, clock, X', hv, hb, hB, hrm, hF⟩ := hroot.rep
              obtain ⟨b', ents', clock', hv', hb', hH⟩ := hroot.holes (by rw [hj]; simp)
              rw [hv] at hv'
              simp only [Value.map.injEq, Option.some.injEq] at hv'
              subst hv'
              rw [hb] at hb'
              simp only [Option.some.injEq, Obj.map.injEq] at hb'
              obtain ⟨rfl, rfl⟩ := hb'
              have hye : y' = y2 := (denEq_eq hke).1 hyy
              subst hye
              rcases find_run (w := w) (C := C) hk hcy hrm.weak with ⟨i, uu, hrun, es1, x, es2, en1, e, en2, X1, Y, X2, ck, cv, g1, g2, g3, g4, g5, g6, g7, g8, rfl, g10, g11, g12, g13, g14⟩ | ⟨hrun, hno⟩
              · have hval : e.val = β j := by
                  rw [g1, g2] at hH
                  exact HoleE.at (by rw [g3, g4]) g13 g14 hH
                refine ⟨_, _, _, _, _, he, ?_, hi, okSV_ok ok true (v := e.val) ?_⟩
                · rw [hv, lookup_run (z := undef) hu hk hcy hb hrun (fun h => by cases h)]; rfl
                · rw [hval]
                  have hs := holeSV_ok (h := hpOf w) (L := C.L) (I := I) (hi.ptr0 j)
                  unfold holeSV at hs ⊢
                  cases hR : look σ.r j with
                  | none => trivial
                  | some R1 => rw [hR] at hs; cases R1 <;> exact hs
              · rw [mfind_none hno] at hfx; cases hfx
            · cases he
          · split at he
            · rename_i σ1 hj
              split at he
              · rename_i l3 k3 v3 es3 hl3
                split at he
                · rename_i y3 hc3 hm3
                  obtain ⟨F', hi1, hJ⟩ := joinK_ok hi hj
                  obtain ⟨e1, e2⟩ := cast?_some hc3
                  subst e1
                  obtain rfl := eq_of_heq e2
                  exact look0K_ok hi1 hl3 hm3 ⟨_, _, _, cy, hcy, rfl⟩ he
                · cases he
              · cases he
            · cases he
      · cases he
    · cases he
  · cases he
end
end Go.Proofs.YthlpjdjipchdkaaDoor.E

namespace Go.Proofs.YthlpjdjipchdkaaDoor.E
open Go
set_option linter.unusedSimpArgs false
set_option linter.unusedVariables false
section
variable {C : Ctx} {I : Set'} {β : Nat → Value} {F : Nat → List Nat} {σ : St} {w : World} {tm : Array Value}
theorem eqTy_rep {h h' : Hp} {S S' : Set'} {l l' : Bool} : ∀ {t : Ty} {x : den t} {c : List Value} {X : List Nat}, eqTy t = true → Rep h S l t x c X → Rep h' S' l' t x c X
  | .int _, _, _, _, _, hr | .bool, _, _, _, _, hr | .str, _, _, _, _, hr | .unit, _, _, _, _, hr => hr
  | .pair a b, _, _, _, he, ⟨c1, c2, X1, X2, e1, e2, e3, e4⟩ => by
    simp only [eqTy, Bool.and_eq_true] at he
    exact ⟨c1, c2, X1, X2, e1, e2, eqTy_rep he.1 e3, eqTy_rep he.2 e4⟩
  | .arr _ _, _, _, _, he, _ | .sl _ _, _, _, _, he, _ | .ptr _ _, _, _, _, he, _ | .ref _ _, _, _, _, he, _ | .map _ _ _, _, _, _, he, _ | .hole _, _, _, _, he, _
  | .raw _ _, _, _, _, he, _ | .nils, _, _, _, he, _ | .nilp, _, _, _, he, _ => by simp [eqTy] at he
theorem eqTy_cells {h h' : Hp} {S S' : Set'} {l l' : Bool} : ∀ {t : Ty} {x : den t} {c d : List Value} {X Y : List Nat}, eqTy t = true → Rep h S l t x c X → Rep h' S' l' t x d Y → c = d ∧ ∀ v ∈ c, ∀ n, Instr.sameBits n v v = true
  | .int _, _, _, _, _, _, _, h1, h2 => by
    obtain ⟨rfl, _⟩ := h1; obtain ⟨rfl, _⟩ := h2
    exact ⟨rfl, fun v hv n => by simp only [List.mem_singleton] at hv; subst hv; cases n <;> simp [Instr.sameBits]⟩
  | .bool, _, _, _, _, _, _, h1, h2 => by
    obtain ⟨rfl, _⟩ := h1; obtain ⟨rfl, _⟩ := h2
    exact ⟨rfl, fun v hv n => by simp only [List.mem_singleton] at hv; subst hv; cases n <;> simp [Instr.sameBits]⟩
  | .str, x, _, _, _, _, _, h1, h2 => by
    obtain ⟨rfl, _⟩ := h1; obtain ⟨rfl, _⟩ := h2
    have e : ((⟨⟨x⟩⟩ : ByteArray) == ⟨⟨x⟩⟩) = true := by
      show ((⟨x⟩ : Array UInt8) == ⟨x⟩) = true
      simp
    exact ⟨rfl, fun v hv n => by simp only [List.mem_singleton] at hv; subst hv; cases n <;> simp [Instr.sameBits, e]⟩
  | .unit, _, _, _, _, _, _, h1, h2 => by
    obtain ⟨rfl, _⟩ := h1; obtain ⟨rfl, _⟩ := h2
    exact ⟨rfl, by simp⟩
  | .pair a b, _, _, _, _, _, he, ⟨c1, c2, X1, X2, e1, _, e3, e4⟩, ⟨d1, d2, Y1, Y2, f1, _, f3, f4⟩ => by
    simp only [eqTy, Bool.and_eq_true] at he
    obtain ⟨g1, g2⟩ := eqTy_cells he.1 e3 f3
    obtain ⟨g3, g4⟩ := eqTy_cells he.2 e4 f4
    refine ⟨by rw [e1, f1, g1, g3], fun v hv n => ?_⟩
    rw [e1] at hv
    rcases List.mem_append.1 hv with hv | hv
    · exact g2 v hv n
    · exact g4 v hv n
  | .arr _ _, _, _, _, _, _, he, _, _ | .sl _ _, _, _, _, _, _, he, _, _ | .ptr _ _, _, _, _, _, _, he, _, _ | .ref _ _, _, _, _, _, _, he, _, _ | .map _ _ _, _, _, _, _, _, he, _, _ | .hole _, _, _, _, _, _, he, _, _
  | .raw _ _, _, _, _, _, _, he, _, _ | .nils, _, _, _, _, _, he, _, _ | .nilp, _, _, _, _, _, he, _, _ => by simp [eqTy] at he
theorem sameBits_wrap {h : Hp} {S : Set'} {l : Bool} {t : Ty} {x : den t} {c : List Value} {X : List Nat} (he : eqTy t = true) (hr : Rep h S l t x c X) : Instr.sameBits 10000 (wrapV t c) (wrapV t c) = true := by
  obtain ⟨_, h2⟩ := eqTy_cells he hr hr
  unfold wrapV
  cases ha : t.isAgg with
  | true =>
    have hall : ∀ (l : List Value), (∀ v ∈ l, ∀ n, Instr.sameBits n v v = true) → ((l.zip l).all fun (x, y) => Instr.sameBits 9999 x y) = true := by
      intro l
      induction l with
      | nil => intro _; rfl
      | cons v l ih =>
        intro hv
        simp only [List.zip_cons_cons, List.all_cons, hv v (by simp), Bool.true_and]
        exact ih fun u hu => hv u (by simp [hu])
    simp only [if_true]
    rw [show (10000 : Nat) = 9999 + 1 from rfl, Instr.sameBits]
    simp only [beq_self_eq_true, Bool.true_and]
    exact hall c h2
  | false =>
    obtain ⟨v, rfl⟩ := List.length_eq_one_iff.1 (hr.raw1 ha)
    exact h2 v (by simp) 10000
def SplitK {k v : Ty} (K : den k → List Value → List Nat → Prop) (V : den v → List Value → List Nat → Prop) (y : den k) (es : List (den k × den v)) (ents : List MapEntry) (X : List Nat) (i : Nat) : Prop :=
  ∃ es1 x es2 en1 e en2 X1 Y X2 ck, es = es1 ++ x :: es2 ∧ ents = en1 ++ e :: en2 ∧ en1.length = i ∧ X = X1 ++ (Y ++ X2) ∧ RM K V (wrapV k) (wrapV v) es1 en1 X1 ∧ e.key = wrapV k ck ∧ K x.1 ck [] ∧ RM K V (wrapV k) (wrapV v) es2 en2 X2 ∧
    (∀ z ∈ es1, denEq k y z.1 = false) ∧ denEq k y x.1 = true
theorem RMz.split {α β' : Type} {q : α → Bool} {K : α → List Value → List Nat → Prop} {V : β' → List Value → List Nat → Prop} {wk wv : List Value → Value} {n : Nat} {x : α × β'} {es2 : List (α × β')} {e : MapEntry} {en2 : List MapEntry} :
    ∀ {es1 : List (α × β')} {en1 : List MapEntry} {X : List Nat}, es1.length = en1.length → (∀ z ∈ es1, q z.1 = false) → q x.1 = true → RMz q K V wk wv n (es1 ++ x :: es2) (en1 ++ e :: en2) X →
      ∃ X1 X2 ck, X = X1 ++ X2 ∧ RM K V wk wv es1 en1 X1 ∧ e.key = wk ck ∧ K x.1 ck [] ∧ RM K V wk wv es2 en2 X2
  | [], [], X, _, _, hx, ⟨e', r, ck, cv, X1, X2, h1, h2, h3, h4, h5, h6⟩ => by
    rw [if_pos hx] at h6
    simp only [List.nil_append, List.cons.injEq] at h1
    obtain ⟨rfl, rfl⟩ := h1
    obtain ⟨_, rfl, h7⟩ := h6
    exact ⟨[], X2, ck, h2, ⟨rfl, rfl⟩, h3, h5, h7⟩
  | z :: es1, e0 :: en1, X, hl, hz, hx, ⟨e', r, ck, cv, X1, X2, h1, h2, h3, h4, h5, h6⟩ => by
    rw [if_neg (by rw [hz z (by simp)]; simp)] at h6
    simp only [List.cons_append, List.cons.injEq] at h1
    obtain ⟨rfl, rfl⟩ := h1
    obtain ⟨Y1, Y2, ck', g1, g2, g3, g4, g5⟩ := RMz.split (q := q) (by simpa using hl) (fun y hy => hz y (by simp [hy])) hx h6.2
    exact ⟨X1 ++ Y1, Y2, ck', by rw [h2, g1, List.append_assoc], ⟨_, _, ck, cv, X1, Y1, rfl, rfl, h3, h4, h5, h6.1, g2⟩, g3, g4, g5⟩
  | [], _ :: _, _, hl, _, _, _ => by simp at hl
  | _ :: _, [], _, hl, _, _, _ => by simp at hl
theorem RMz.rm' {α β' : Type} {q : α → Bool} {K : α → List Value → List Nat → Prop} {V : β' → List Value → List Nat → Prop} {wk wv : List Value → Value} {n : Nat} :
    ∀ {es : List (α × β')} {en : List MapEntry} {X : List Nat}, (∀ z ∈ es, q z.1 = false) → RMz q K V wk wv n es en X → RM K V wk wv es en X
  | [], _, _, _, h => h
  | x :: es, _, _, hq, ⟨e, r, ck, cv, X1, X2, h1, h2, h3, h4, h5, h6⟩ => by
    rw [if_neg (by rw [hq x (by simp)]; simp)] at h6
    exact ⟨e, r, ck, cv, X1, X2, h1, h2, h3, h4, h5, h6.1, RMz.rm' (fun z hz => hq z (by simp [hz])) h6.2⟩
theorem findz_run {h h' : Hp} {S S' : Set'} {l l' : Bool} {kt : TypeId} {k v : Ty} {y : den k} {cy : List Value} {V : den v → List Value → List Nat → Prop} {z : Option (den k × Nat)} {n : Nat} (hk : eqOk C.T 20 kt k = true) (hy : Rep h' S' l' k y cy [])
    (hz : z = none ∨ ∃ j, z = some (y, j)) {es : List (den k × den v)} {ents : List MapEntry} {X : List Nat} (hr : RMz (zq z) (Rep h S l k) V (wrapV k) (wrapV v) n es ents X) :
    (∃ i u, (Instr.findKey kt (wrapV k cy) ents).run C.P w = .ok (some (i, u)) w ∧ SplitK (Rep h S l k) V y es ents X i) ∨
    ((Instr.findKey kt (wrapV k cy) ents).run C.P w = .ok none w ∧ (∀ z ∈ es, denEq k y z.1 = false) ∧ RM (Rep h S l k) V (wrapV k) (wrapV v) es ents X) := by
  rcases hz with rfl | ⟨j, rfl⟩
  · have hr := RMz.rm (fun _ => rfl) hr
    rcases find_run (w := w) (C := C) hk hy hr with ⟨i, u, h1, es1, x, es2, en1, e, en2, X1, Y, X2, ck, cv, g1, g2, g3, g4, g5, g6, g7, g8, g9, g10, g11, g12, g13, g14⟩ | ⟨h1, h2⟩
    · exact .inl ⟨i, u, h1, es1, x, es2, en1, e, en2, X1, Y, X2, ck, g1, g2, g3, g5, g6, g7, g10, g12, g13, g14⟩
    · exact .inr ⟨h1, h2, hr⟩
  · rcases find_run (w := w) (C := C) hk hy hr.weak with ⟨i, u, h1, es1, x, es2, en1, e, en2, X1, Y, X2, ck, cv, g1, g2, g3, g4, g5, g6, g7, g8, g9, g10, g11, g12, g13, g14⟩ | ⟨h1, h2⟩
    · rw [g1, g2] at hr
      obtain ⟨Y1, Y2, ck', k1, k2, k3, k4, k5⟩ := RMz.split (q := denEq k y) (by rw [g3, g4]) g13 g14 hr
      exact .inl ⟨i, u, h1, es1, x, es2, en1, e, en2, Y1, [], Y2, ck', g1, g2, g3, by simpa using k1, k2, k3, k4, k5, g13, g14⟩
    · exact .inr ⟨h1, h2, RMz.rm' (q := denEq k y) h2 hr⟩
theorem list_modify_mid {α : Type} {f : α → α} {e : α} {en2 : List α} : ∀ (en1 : List α), (en1 ++ e :: en2).modify en1.length f = en1 ++ f e :: en2
  | [] => rfl
  | a :: en1 => by
    show a :: (en1 ++ e :: en2).modify en1.length f = a :: (en1 ++ f e :: en2)
    rw [list_modify_mid en1]
theorem list_erase_mid {α : Type} {e : α} {en2 : List α} : ∀ (en1 : List α), (en1 ++ e :: en2).eraseIdx en1.length = en1 ++ en2
  | [] => rfl
  | a :: en1 => by
    show a :: (en1 ++ e :: en2).eraseIdx en1.length = a :: (en1 ++ en2)
    rw [list_erase_mid en1]
def setMap (w : World) (b : Nat) (o : Obj) : World := { w with heap := w.heap.setIfInBounds b o }
theorem setMap_ok {b : Nat} {o o' : Obj} (hb : hpOf w b = some o) : hpOf (setMap w b o') b = some o' ∧ (∀ k, k ≠ b → hpOf (setMap w b o') k = hpOf w k) ∧ (setMap w b o').heap.size = w.heap.size ∧ restOf (setMap w b o') = restOf w := by
  obtain ⟨h1, h2⟩ := Go.MapKept.heap_set (w := w) (r := b) (o' := o') hb
  exact ⟨h1, h2, by simp [setMap], rfl⟩
theorem Inv.mapset (hi : Inv C I β F σ w tm) {r b : Nat} {l : Bool} {k v : Ty} {es es' : List (den k × den v)} {z : Option (den k × Nat)} {ents ents' : Array MapEntry} {clock clock' : Nat} {X' : List Nat} (hl : look σ.r r = some (.map l k v es z))
    (hv : β r = .map (some b)) (hb : hpOf w b = some (.map ents clock)) (hbF : b ∈ F r) (hB : Born ents' clock') (hrm : RM (Rep (hpOf w) (Sx C.L I l) false k) (Rep (hpOf w) (Sx C.L I l) false v) (wrapV k) (wrapV v) es' ents'.toList X')
    (hnd : (b :: X').Nodup) (hX : ∀ b' ∈ X', b' ∈ F r ∨ ((¬ I b' ∧ ¬ C.L b' ∧ b' < w.heap.size ∧ (C.X b' ∨ C.n ≤ b')) ∧ ∀ k R1, look σ.r k = some R1 → b' ∉ F k)) :
    Inv C I β (updF F r (b :: X')) (setRoot σ r (.map l k v es' none)) (setMap w b (.map ents' clock')) tm := by
  obtain ⟨s1, s2, s3, s4⟩ := setMap_ok (o' := .map ents' clock') hb
  have hroot := hi.root hl
  have hn1 := List.nodup_cons.1 hnd
  have hSb : ∀ l', ¬ Sx C.L I l' b := by
    intro l' h
    rcases h with h | ⟨_, h⟩
    · exact (hroot.own b hbF).1 h
    · exact (hroot.own b hbF).2.1 h
  have hS : ∀ b', Sx C.L I l b' → Sx C.L I l b' ∧ hpOf (setMap w b (.map ents' clock')) b' = hpOf w b' := fun b' hb' => ⟨hb', s2 b' (by rintro rfl; exact hSb l hb')⟩
  refine hi.write2 (R' := .map l k v es' none) (Y := b :: X') hl trivial (by rw [s3]; exact Nat.le_refl _) s4 (fun b' _ hb' => s2 b' (by rintro rfl; exact hb' hbF)) hnd ?_ ?_ ?_ trivial
  · intro b' hb'
    rcases List.mem_cons.1 hb' with rfl | hb'
    · rw [s3]; exact hroot.own _ hbF
    · rcases hX b' hb' with h | ⟨h, _⟩
      · rw [s3]; exact hroot.own _ h
      · rw [s3]; exact h
  · intro k' R1 hne hl' b' hb' hY
    rcases List.mem_cons.1 hY with rfl | hY
    · exact hi.disj k' r _ _ hne hl' hl _ hb' hbF
    · rcases hX b' hY with h | ⟨_, h⟩
      · exact hi.disj k' r _ _ hne hl' hl _ hb' h
      · exact h k' R1 hl' hb'
  · refine ⟨b, ents', clock', X', hv, s1, hB, ?_, rfl⟩
    have hrm' : RM (Rep (hpOf (setMap w b (.map ents' clock'))) (Sx C.L I l) false k) (Rep (hpOf (setMap w b (.map ents' clock'))) (Sx C.L I l) false v) (wrapV k) (wrapV v) es' ents'.toList X' :=
      RM.mono_mem (fun x c hq => Rep.keep hS (by simp) hq) (fun x c Y hY hq => Rep.keep hS (fun b' hb' => s2 b' (by rintro rfl; exact hn1.1 (hY b' hb'))) hq) hrm
    exact (RMz.no (q := fun _ => false) (n := v.size) (u := undef) (fun _ _ => rfl) hrm').1
theorem update_run {h' : Hp} {S' : Set'} {l' : Bool} {t kt vt : TypeId} {k v : Ty} {V : den v → List Value → List Nat → Prop} {h : Hp} {S : Set'} {l : Bool} {y : den k} {cy : List Value} {b : Nat} {es : List (den k × den v)} {ents : Array MapEntry} {X : List Nat} {clock i : Nat} {u vv : Value} (hu : C.P.underlying t = some (.map kt vt))
    (hke : eqTy k = true) (hk : eqOk C.T 20 kt k = true) (hy : Rep h' S' l' k y cy []) (hb : hpOf w b = some (.map ents clock)) (hf : (Instr.findKey kt (wrapV k cy) ents.toList).run C.P w = .ok (some (i, u)) w) (hs : SplitK (Rep h S l k) V y es ents.toList X i) :
    (Instr.mapUpdate t (.map (some b)) (wrapV k cy) vv).run C.P w = .ok () (setMap w b (.map (ents.modify i fun e => { e with key := wrapV k cy, val := vv }) clock)) := by
  have hck := checkKey_run (C := C) false w 20 10000 (by omega) kt k y cy [] hk hy
  obtain ⟨es1, x, es2, en1, e, en2, X1, Y, X2, ck, g1, g2, g3, g4, g5, g6, g7, g8, g9, g10⟩ := hs
  have hei : ents[i]? = some e := by
    rw [← Array.getElem?_toList, g2, ← g3]; simp
  have hyx : y = x.1 := (denEq_eq hke).1 g10
  subst hyx
  obtain ⟨hcc, _⟩ := eqTy_cells hke g7 hy
  have hkey : e.key = wrapV k cy := by rw [g6, hcc]
  have hsb : Instr.sameBits 10000 e.key (wrapV k cy) = true := by rw [hkey]; exact sameBits_wrap hke hy
  unfold Instr.mapUpdate
  simp only [Sem.run_bind, run_underlying hu, Result.andThen_ok, run_getMap hb, hck, hf, hei, Option.map_some, Option.getD_some, Instr.keyThatStays, hsb, if_true, Sem.run_pure]
  exact Go.MapKept.run_setObj_map _ hb
theorem insert_run {h' : Hp} {S' : Set'} {l' : Bool} {t kt vt : TypeId} {k : Ty} {y : den k} {cy : List Value} {b : Nat} {ents : Array MapEntry} {clock : Nat} {vv : Value} (hu : C.P.underlying t = some (.map kt vt))
    (hk : eqOk C.T 20 kt k = true) (hy : Rep h' S' l' k y cy []) (hb : hpOf w b = some (.map ents clock)) (hf : (Instr.findKey kt (wrapV k cy) ents.toList).run C.P w = .ok none w) :
    (Instr.mapUpdate t (.map (some b)) (wrapV k cy) vv).run C.P w = .ok () (setMap w b (.map (ents.push { key := wrapV k cy, val := vv, born := clock }) (clock + 1))) := by
  have hck := checkKey_run (C := C) false w 20 10000 (by omega) kt k y cy [] hk hy
  unfold Instr.mapUpdate
  simp only [Sem.run_bind, run_underlying hu, Result.andThen_ok, run_getMap hb, hck, hf, Sem.run_pure]
  exact Go.MapKept.run_setObj_map _ hb
def delObj (ents : Array MapEntry) (clock : Nat) : Option (Nat × Value) → Obj
  | some (i, _) => .map (ents.eraseIdxIfInBounds i) clock
  | none => .map ents clock
theorem delete_run {h' : Hp} {S' : Set'} {l' : Bool} {t kt vt ty : TypeId} {ts : List TypeId} {k : Ty} {y : den k} {cy : List Value} {b : Nat} {ents : Array MapEntry} {clock : Nat} {r : Option (Nat × Value)} (hu : C.P.underlying t = some (.map kt vt))
    (hk : eqOk C.T 20 kt k = true) (hy : Rep h' S' l' k y cy []) (hb : hpOf w b = some (.map ents clock)) (hf : (Instr.findKey kt (wrapV k cy) ents.toList).run C.P w = .ok r w) :
    (Builtin.delete_ (t :: ts).toArray ty #[.map (some b), wrapV k cy]).run C.P w = .ok (.tuple #[]) (setMap w b (delObj ents clock r)) := by
  have hck := checkKey_run (C := C) ents.isEmpty w 20 10000 (by omega) kt k y cy [] hk hy
  have h1 : ∀ o, (setObj b o).run C.P w = .ok () (setMap w b o) := fun o => Go.MapKept.run_setObj_map o hb
  unfold Builtin.delete_
  cases r with
  | some p =>
    obtain ⟨i, u⟩ := p
    simp [run_underlying hu, run_getMap hb, hck, hf, h1, delObj]
  | none => simp [run_underlying hu, run_getMap hb, hck, hf, h1, delObj]
theorem Born.modify {ents : Array MapEntry} {clock i : Nat} {ky vv : Value} (h : Born ents clock) : Born (ents.modify i fun e => { e with key := ky, val := vv }) clock := by
  have e1 : (ents.modify i fun e => { e with key := ky, val := vv }).toList.map (·.born) = ents.toList.map (·.born) := by
    rw [Array.toList_modify]
    generalize ents.toList = l
    induction l generalizing i with
    | nil => simp
    | cons a l ih =>
      cases i with
      | zero => rfl
      | succ i => simp [ih]
  refine ⟨by rw [e1]; exact h.1, fun e he => ?_⟩
  have : e.born ∈ ents.toList.map (·.born) := by rw [← e1]; exact List.mem_map.2 ⟨e, he, rfl⟩
  obtain ⟨e', he', h'⟩ := List.mem_map.1 this
  rw [← h']; exact h.2 e' he'
theorem Born.push {ents : Array MapEntry} {clock : Nat} {ky vv : Value} (h : Born ents clock) : Born (ents.push { key := ky, val := vv, born := clock }) (clock + 1) := by
  refine ⟨?_, fun e he => ?_⟩
  · simp only [Array.toList_push, List.map_append, List.map_cons, List.map_nil]
    refine List.nodup_append.2 ⟨h.1, by simp, fun a ha c hc => ?_⟩
    obtain ⟨e, he, rfl⟩ := List.mem_map.1 ha
    have := h.2 e he
    simp only [List.mem_singleton] at hc
    omega
  · simp only [Array.toList_push, List.mem_append, List.mem_singleton] at he
    rcases he with he | rfl
    · have := h.2 e he; omega
    · simp
theorem Born.erase {ents : Array MapEntry} {clock i : Nat} (h : Born ents clock) : Born (ents.eraseIdxIfInBounds i) clock := by
  have hs : (ents.eraseIdxIfInBounds i).toList.Sublist ents.toList := by
    unfold Array.eraseIdxIfInBounds
    split
    · rw [Array.toList_eraseIdx]; exact List.eraseIdx_sublist ..
    · exact List.Sublist.refl _
  exact ⟨h.1.sublist (hs.map _), fun e he => h.2 e (hs.subset he)⟩
theorem mapput_ok (hi : Inv C I β F σ w tm) {r : Nat} {l : Bool} {k v : Ty} {es : List (den k × den v)} {z : Option (den k × Nat)} {t : TypeId} {y : den k} {x : den v} {cx : List Value} {Xv : List Nat} {h' : Hp} {S' : Set'} {l' : Bool} {cy : List Value}
    (hl : look σ.r r = some (.map l k v es z)) (hm : mapOk C.T t k v = true) (hz : z = none ∨ ∃ j, z = some (y, j)) (hy : Rep h' S' l' k y cy []) (hx : Rep (hpOf w) (Sx C.L I l) false v x cx Xv) (hXv : Taken C I F σ w Xv) :
    ∃ w' F', (Instr.mapUpdate t (β r) (wrapV k cy) (wrapV v cx)).run C.P w = .ok () w' ∧ Inv C I β F' (setRoot σ r (.map l k v (mput (denEq k) es y x) none)) w' tm := by
  obtain ⟨kt, vt, hu, hke, hk, hfit, _⟩ := mapOk_ok hm
  have hroot := hi.root hl
  obtain ⟨b, ents, clock, X', hv, hb, hB, hrm, hF⟩ := hroot.rep
  have hbF : b ∈ F r := by rw [hF]; simp
  have hnd := hroot.nodup
  rw [hF] at hnd
  obtain ⟨hbX, hX'⟩ := List.nodup_cons.1 hnd
  have hy2 : Rep (hpOf w) (Sx C.L I l) false k y cy [] := eqTy_rep hke hy
  have hXvF : ∀ b' ∈ Xv, b' ∉ F r := fun b' hb' h => hXv.apart r _ hl b' h hb'
  rcases findz_run (w := w) (C := C) hk hy hz hrm with ⟨i, u, hrun, hs⟩ | ⟨hrun, hno, hrm2⟩
  · have hupd := update_run (vv := wrapV v cx) hu hke hk hy hb hrun hs
    obtain ⟨es1, x0, es2, en1, e, en2, X1, Y, X2, ck, g1, g2, g3, g4, g5, g6, g7, g8, g9, g10⟩ := hs
    have hput : mput (denEq k) es y x = es1 ++ (y, x) :: es2 := by rw [g1]; exact mput_app g9 g10
    rw [← hv] at hupd
    refine ⟨_, updF F r (b :: (X1 ++ (Xv ++ X2))), hupd, ?_⟩
    rw [hput]
    have hmod : (ents.modify i fun e => { e with key := wrapV k cy, val := wrapV v cx }).toList = en1 ++ { e with key := wrapV k cy, val := wrapV v cx } :: en2 := by
      rw [Array.toList_modify, g2, ← g3, list_modify_mid]
    obtain ⟨n1, n2, n3⟩ := List.nodup_append.1 (g4 ▸ hX')
    obtain ⟨n4, n5, n6⟩ := List.nodup_append.1 n2
    refine hi.mapset (X' := X1 ++ (Xv ++ X2)) hl hv hb hbF hB.modify ?_ ?_ ?_
    · rw [hmod]
      exact RM.app g5 ⟨_, _, cy, cx, Xv, X2, rfl, rfl, rfl, rfl, hy2, hx, g8⟩
    · refine List.nodup_cons.2 ⟨fun h => ?_, List.nodup_append.2 ⟨n1, List.nodup_append.2 ⟨hXv.nodup, n5, fun a ha c hc => ?_⟩, fun a ha c hc => ?_⟩⟩
      · simp only [List.mem_append] at h
        rcases h with h | h | h
        · exact hbX (by rw [g4]; simp [h])
        · exact hXvF b h hbF
        · exact hbX (by rw [g4]; simp [h])
      · rintro rfl
        exact hXvF a ha (by rw [hF, g4]; simp [hc])
      · rintro rfl
        rcases List.mem_append.1 hc with hc | hc
        · exact hXvF a hc (by rw [hF, g4]; simp [ha])
        · exact n3 a ha a (by simp [hc]) rfl
    · intro b' hb'
      simp only [List.mem_append] at hb'
      rcases hb' with h | h | h
      · exact .inl (by rw [hF, g4]; simp [h])
      · exact .inr ⟨hXv.own b' h, fun k' R1 hk' hf => hXv.apart k' R1 hk' b' hf h⟩
      · exact .inl (by rw [hF, g4]; simp [h])
  · have hins := insert_run (vv := wrapV v cx) hu hk hy hb hrun
    rw [← hv] at hins
    refine ⟨_, updF F r (b :: (X' ++ Xv)), hins, ?_⟩
    rw [mput_none hno]
    refine hi.mapset (X' := X' ++ Xv) hl hv hb hbF hB.push ?_ ?_ ?_
    · rw [Array.toList_push]
      exact RM.app hrm2 ⟨_, _, cy, cx, Xv, [], rfl, by simp, rfl, rfl, hy2, hx, ⟨rfl, rfl⟩⟩
    · refine List.nodup_cons.2 ⟨fun h => ?_, List.nodup_append.2 ⟨hX', hXv.nodup, fun a ha c hc => ?_⟩⟩
      · rcases List.mem_append.1 h with h | h
        · exact hbX h
        · exact hXvF b h hbF
      · rintro rfl
        exact hXvF a hc (by rw [hF]; simp [ha])
    · intro b' hb'
      rcases List.mem_append.1 hb' with h | h
      · exact .inl (by rw [hF]; simp [h])
      · exact .inr ⟨hXv.own b' h, fun k' R1 hk' hf => hXv.apart k' R1 hk' b' hf h⟩
theorem mapdel_ok (hi : Inv C I β F σ w tm) {r : Nat} {l : Bool} {k v : Ty} {es : List (den k × den v)} {z : Option (den k × Nat)} {t ty : TypeId} {ts : List TypeId} {y : den k} {h' : Hp} {S' : Set'} {l' : Bool} {cy : List Value}
    (hl : look σ.r r = some (.map l k v es z)) (hm : mapOk C.T t k v = true) (hz : z = none ∨ ∃ j, z = some (y, j)) (hy : Rep h' S' l' k y cy []) :
    ∃ w' F', (Builtin.delete_ (t :: ts).toArray ty #[β r, wrapV k cy]).run C.P w = .ok (.tuple #[]) w' ∧ Inv C I β F' (setRoot σ r (.map l k v (mdel (denEq k) es y) none)) w' tm := by
  obtain ⟨kt, vt, hu, hke, hk, hfit, _⟩ := mapOk_ok hm
  have hroot := hi.root hl
  obtain ⟨b, ents, clock, X', hv, hb, hB, hrm, hF⟩ := hroot.rep
  have hbF : b ∈ F r := by rw [hF]; simp
  have hnd := hroot.nodup
  rw [hF] at hnd
  obtain ⟨hbX, hX'⟩ := List.nodup_cons.1 hnd
  rcases findz_run (w := w) (C := C) hk hy hz hrm with ⟨i, u, hrun, hs⟩ | ⟨hrun, hno, hrm2⟩
  · have hdel := delete_run (ty := ty) (ts := ts) hu hk hy hb hrun
    obtain ⟨es1, x0, es2, en1, e, en2, X1, Y, X2, ck, g1, g2, g3, g4, g5, g6, g7, g8, g9, g10⟩ := hs
    have hput : mdel (denEq k) es y = es1 ++ es2 := by rw [g1]; exact mdel_app g9 g10
    rw [← hv] at hdel
    refine ⟨_, updF F r (b :: (X1 ++ X2)), hdel, ?_⟩
    rw [hput]
    have hmod : (ents.eraseIdxIfInBounds i).toList = en1 ++ en2 := by
      have hlt : i < ents.size := by
        have := congrArg List.length g2
        simp at this; omega
      unfold Array.eraseIdxIfInBounds
      rw [dif_pos hlt, Array.toList_eraseIdx, g2, ← g3, list_erase_mid]
    obtain ⟨n1, n2, n3⟩ := List.nodup_append.1 (g4 ▸ hX')
    obtain ⟨n4, n5, n6⟩ := List.nodup_append.1 n2
    refine hi.mapset (X' := X1 ++ X2) hl hv hb hbF hB.erase ?_ ?_ ?_
    · rw [hmod]; exact RM.app g5 g8
    · refine List.nodup_cons.2 ⟨fun h => ?_, List.nodup_append.2 ⟨n1, n5, fun a ha c hc => n3 a ha c (by simp [hc])⟩⟩
      rcases List.mem_append.1 h with h | h
      · exact hbX (by rw [g4]; simp [h])
      · exact hbX (by rw [g4]; simp [h])
    · intro b' hb'
      rcases List.mem_append.1 hb' with h | h
      · exact .inl (by rw [hF, g4]; simp [h])
      · exact .inl (by rw [hF, g4]; simp [h])
  · have hdel := delete_run (ty := ty) (ts := ts) hu hk hy hb hrun
    rw [← hv] at hdel
    refine ⟨_, updF F r (b :: X'), hdel, ?_⟩
    rw [mdel_none hno]
    exact hi.mapset (X' := X') hl hv hb hbF hB hrm2 hnd (fun b' hb' => .inl (by rw [hF]; simp [hb']))
end
end Go.Proofs.YthlpjdjipchdkaaDoor.E

namespace Go.Proofs.YthlpjdjipchdkaaDoor.E
open Go
set_option linter.unusedSimpArgs false
set_option linter.unusedVariables false
section
variable {C : Ctx} {I : Set'} {β : Nat → Value} {F : Nat → List Nat} {σ : St} {w : World} {tm : Array Value}
theorem Taken.nil {F' : Nat → List Nat} {I' : Set'} {σ' : St} : Taken C I' F' σ' w [] := ⟨List.nodup_nil, by simp, by simp⟩
theorem Taken.joined {F' : Nat → List Nat} {I' : Set'} {σ' : St} {r : Nat} {X : List Nat} (h : Taken C I' F σ w X) (hJ : Joined F F' σ σ' r) : Taken C I' F' σ' w X := by
  refine ⟨h.nodup, h.own, fun k R hk b hb hX => ?_⟩
  by_cases hkr : k = r
  · subst hkr
    obtain ⟨j, h1, h2, _⟩ := hJ.from' b hb
    cases hj : look σ.r j with
    | none => exact h1 hj
    | some R' => exact h.apart j R' hj b h2 hX
  · rw [hJ.same k hkr] at hb
    cases hj : look σ.r k with
    | none =>
      rcases hJ.roots k with g | ⟨g, _⟩
      · rw [hj, hk] at g; exact g
      · exact g hj
    | some R' => exact h.apart k R' hj b hb hX
theorem updMK_ok {R : Type} (hi : Inv C I β F σ w tm) {t : TypeId} {a y v : SV} {va vy vv : Value} {K : St → Option R} {res : R} (ha : SVR (hpOf w) C.L I β σ.r a va) (hy : SVR (hpOf w) C.L I β σ.r y vy) (hv : SVR (hpOf w) C.L I β σ.r v vv)
    (he : updMK C.T t a y v σ K = some res) : ∃ σ' w' I' β' F', K σ' = some res ∧ (Instr.mapUpdate t va vy vv).run C.P w = .ok () w' ∧ Inv C I' β' F' σ' w' tm := by
  unfold updMK at he
  split at he
  · rename_i r
    obtain ⟨l0, k0, v0, es0, z0, h0, rfl⟩ := ha
    split at he
    · rename_i l1 k1 vt0 es1 z1 h1
      split at he
      · -- nothing owned
        split at he
        rename_i v' σ1 hsh
        obtain ⟨I', hi1, hs1, _⟩ := shared_ok hi hv hsh
        split at he
        · rename_i l k vt es hl
          split at he
          · rename_i y' x' hty htx hm
            simp only [Bool.and_eq_true] at hm
            obtain ⟨cy, hcy, rfl⟩ := toV_ok hty hy
            obtain ⟨cx, hcx, rfl⟩ := toV_ok htx hs1
            obtain ⟨w', F', h2, h3⟩ := mapput_ok hi1 hl hm.1 (.inl rfl) hcy (calm_any (l := false) (flat_calm hm.2) hcx) Taken.nil
            exact ⟨_, w', I', β, F', he, h2, h3⟩
          · cases he
        · cases he
      · -- what is owned
        split at he
        · rename_i x σ1 htk
          obtain ⟨I', cs, X, hi1, _, hrep, rfl, hT, _⟩ := takeV_ok hi hv htk
          split at he
          · rename_i k vt es z hl
            split at he
            · rename_i y' x' hty hcx hm
              obtain ⟨cy, hcy, rfl⟩ := toV_ok hty hy
              obtain ⟨e1, e2⟩ := cast?_some hcx
              subst e1
              obtain rfl := eq_of_heq e2
              split at he
              · obtain ⟨w', F', h2, h3⟩ := mapput_ok hi1 hl hm (.inl rfl) hcy hrep hT
                exact ⟨_, w', I', β, F', he, h2, h3⟩
              · rename_i y2 j
                split at he
                · have he0 := br_or he
                  clear he
                  rcases he0 with ⟨hq, he⟩ | ⟨_, he⟩
                  · obtain ⟨_, _, _, hke, _⟩ := mapOk_ok hm
                    have hyy : y' = y2 := (denEq_eq hke).1 hq
                    subst hyy
                    obtain ⟨w', F', h2, h3⟩ := mapput_ok hi1 hl hm (.inr ⟨j, rfl⟩) hcy hrep hT
                    exact ⟨_, w', I', β, F', he, h2, h3⟩
                  · cases he
                · split at he
                  · rename_i σ2 hj2
                    obtain ⟨F2, hi2, hJ⟩ := joinK_ok hi1 hj2
                    split at he
                    · rename_i k2 v2 es2 hl2
                      split at he
                      · rename_i y3 x3 hc3 hc4
                        obtain ⟨e3, e4⟩ := cast?_some hc3
                        subst e3
                        obtain rfl := eq_of_heq e4
                        obtain ⟨e5, e6⟩ := cast?_some hc4
                        subst e5
                        obtain rfl := eq_of_heq e6
                        obtain ⟨w', F', h2, h3⟩ := mapput_ok hi2 hl2 hm (.inl rfl) hcy hrep (hT.joined hJ)
                        exact ⟨_, w', I', β, F', he, h2, h3⟩
                      · cases he
                    · cases he
                  · cases he
            · cases he
          · cases he
        · cases he
    · cases he
  · cases he
theorem delMK_ok {R : Type} (hi : Inv C I β F σ w tm) {t ty : TypeId} {ts : List TypeId} {a y : SV} {va vy : Value} {K : St → Option R} {res : R} (ha : SVR (hpOf w) C.L I β σ.r a va) (hy : SVR (hpOf w) C.L I β σ.r y vy)
    (he : delMK C.T t a y σ K = some res) : ∃ σ' w' F', K σ' = some res ∧ (Builtin.delete_ (t :: ts).toArray ty #[va, vy]).run C.P w = .ok (.tuple #[]) w' ∧ Inv C I β F' σ' w' tm := by
  unfold delMK at he
  split at he
  · rename_i r
    obtain ⟨l0, k0, v0, es0, z0, h0, rfl⟩ := ha
    split at he
    · rename_i l k v es z hl
      split at he
      · rename_i y' hty hm
        obtain ⟨cy, hcy, rfl⟩ := toV_ok hty hy
        split at he
        · obtain ⟨w', F', h2, h3⟩ := mapdel_ok (ty := ty) (ts := ts) hi hl hm (.inl rfl) hcy
          exact ⟨_, w', F', he, h2, h3⟩
        · rename_i y2 j
          split at he
          · have he0 := br_or he
            clear he
            rcases he0 with ⟨hq, he⟩ | ⟨_, he⟩
            · obtain ⟨_, _, _, hke, _⟩ := mapOk_ok hm
              have hyy : y' = y2 := (denEq_eq hke).1 hq
              subst hyy
              obtain ⟨w', F', h2, h3⟩ := mapdel_ok (ty := ty) (ts := ts) hi hl hm (.inr ⟨j, rfl⟩) hcy
              exact ⟨_, w', F', he, h2, h3⟩
            · cases he
          · split at he
            · rename_i σ2 hj2
              obtain ⟨F2, hi2, hJ⟩ := joinK_ok hi hj2
              split at he
              · rename_i l2 k2 v2 es2 hl2
                split at he
                · rename_i y3 hc3 hm2
                  obtain ⟨e3, e4⟩ := cast?_some hc3
                  subst e3
                  obtain rfl := eq_of_heq e4
                  obtain ⟨w', F', h2, h3⟩ := mapdel_ok (ty := ty) (ts := ts) hi2 hl2 hm2 (.inl rfl) hcy
                  exact ⟨_, w', F', he, h2, h3⟩
                · cases he
              · cases he
            · cases he
      · cases he
    · cases he
  · cases he
end
end Go.Proofs.YthlpjdjipchdkaaDoor.E

namespace Go.Proofs.YthlpjdjipchdkaaDoor.E
open Go
set_option linter.unusedSimpArgs false
set_option linter.unusedVariables false
theorem appS_eq : ∀ a b : List SV, appS a b = a ++ b
  | [], _ => rfl
  | sv :: a, b => by simp [appS, appS_eq a b]
theorem All2.append {α β : Type} {R : α → β → Prop} : ∀ {a c : List α} {b d : List β}, All2 R a b → All2 R c d → All2 R (a ++ c) (b ++ d)
  | [], _, [], _, _, h => h
  | [], _, _ :: _, _, h, _ => h.elim
  | _ :: _, _, [], _, h, _ => h.elim
  | _ :: _, _, _ :: _, _, ⟨h1, h2⟩, h => ⟨h1, h2.append h⟩
theorem bd_some {A R : Type} {o : Option A} {f : A → Option R} {r : R} (h : bd o f = some r) : ∃ x, o = some x ∧ f x = some r := by
  cases o with
  | none => simp [bd] at h
  | some x => exact ⟨x, rfl, h⟩
def InlOk (P : Program) (E' : Env) (inl : Inl) : Prop :=
  ∀ (f : FuncId) (svs : List SV) (d : Nat) (R : Type) (σ : St) (K : List SV → St → Option R) (res : R), E'.inl f = true → inl f svs d R σ K = some res →
    (∃ F, P.funcs[f]? = some F ∧ F.body.isSome = true ∧ F.name ≠ "runtime.NumGoroutine") ∧
    ∀ (C : Ctx), C.P = P → C.T = E'.T → C.G = E'.G → ∀ {I : Set'} {β : Nat → Value} {F : Nat → List Nat} {w : World} {tm : Array Value} {vs : List Value}, Inv C I β F σ w tm → All2 (SVR (hpOf w) C.L I β σ.r) svs vs →
      Calls P f vs.toArray w fun e w' => ∃ v, e = .returned v ∧ ∃ σ' svs' vals I' β' F', v = tupleV vals ∧ K svs' σ' = some res ∧ Inv C I' β' F' σ' w' tm ∧ All2 (SVR0 (hpOf w') C.L I' β' σ'.r) svs' vals
section
variable {C : Ctx} {I : Set'} {β : Nat → Value} {F : Nat → List Nat} {σ : St} {w : World} {tm : Array Value}
theorem exec_call (hi : Inv C I β F σ w tm) {g : Option (Nat × Bool)} (hg : Gok tm g) {o : Oper} {f : FuncId} {svs : List SV} (hc : calleeOf C.G σ g o = some (f, svs)) :
    ∃ vs, All2 (SVR (hpOf w) C.L I β σ.r) svs vs ∧ ∀ {fd : Func}, C.P.funcs[f]? = some fd → fd.body.isSome = true → fd.name ≠ "runtime.NumGoroutine" → ∀ w, (execOp (evT tm) o).run C.P w = .ok (.enter f vs.toArray) w := by
  unfold calleeOf at hc
  split at hc
  · rename_i c ho
    split at hc
    · rename_i x hx
      split at hc
      · rename_i f' first caps hs
        simp only [Option.some.injEq, Prod.mk.injEq] at hc
        obtain ⟨rfl, rfl⟩ := hc
        have ha := arg_ok hi hg x
        rw [hs] at ha
        obtain ⟨us, vs, hv, h1, h2⟩ := ha
        refine ⟨us ++ (c.args.toList.map (evT tm) ++ vs), ?_, ?_⟩
        · rw [appS_eq, appS_eq]
          exact (h1.imp fun a _ b h => SVR_of0 h).append ((args_all hi hg _).append (h2.imp fun a _ b h => SVR_of0 h))
        · intro fd hf hb hn w
          have hbn : fd.body.isNone = false := by cases h : fd.body <;> simp_all
          have hargs : us.toArray ++ c.args.map (evT tm) ++ vs.toArray = (us ++ (c.args.toList.map (evT tm) ++ vs)).toArray := by
            rw [map_toList (f := evT tm) (rfl : c.args.toList = _)]; simp
          unfold execOp
          simp [ho, resolve, hx, hv, Deferred.ofValue, invoke, callFunc, hf, hn, hbn]
          have hne : fd.body ≠ none := fun h => by rw [h] at hb; cases hb
          rw [if_neg hne, ← Array.append_assoc, hargs]
      · cases hc
    · cases hc
  · cases hc
theorem nil_after (hi : Inv C I β F σ w tm) {g : Option (Nat × Bool)} (hg : Gok tm g) {R : Type} {o : Oper} {x : Operand} {u : Bool} {A B : Option R} {res : R} (hnt : nilTest C.T o = some (x, u)) (he : nilK σ (σ.arg C.G g x) A B = some res) :
    ∃ b, AfterQ C I β σ σ w (.v false .bool b) ((execOp (evT tm) o).run C.P w) ∧ ((b = u ∧ A = some res) ∨ (b = !u ∧ B = some res)) := by
  obtain ⟨av, n, c, h1, h2, h3⟩ := nilV hi (arg_ok hi hg x) he
  have key : ∀ b : Bool, b = (if av.isNone then u else !u) → AfterQ C I β σ σ w (.v false .bool b) ((execOp (evT tm) o).run C.P w) := by
    intro b hb
    unfold nilTest at hnt
    split at hnt
    · rename_i op t x' q ho
      split at hnt
      · rename_i e hu
        simp only [Option.some.injEq, Prod.mk.injEq] at hnt
        obtain ⟨rfl, rfl⟩ := hnt
        unfold execOp; simp only [ho]
        refine After0.q (s := (do eqGuard .eql t x' (.const (.slice none 0 0)) (evT tm x') (evT tm (.const (.slice none 0 0))); binOp .eql t (evT tm x') (evT tm (.const (.slice none 0 0))) : Sem Value)) ?_
        rw [show evT tm (.const (.slice none 0 0)) = .slice none 0 0 from rfl, h1, Sem.run_bind, eqGuard_sl]
        simp only [Result.andThen_ok, binOp, Sem.run_bind, equal_sl_nil (und_ok hu)]
        have : b = av.isNone := by rw [hb]; cases av <;> rfl
        subst this
        exact hi.after0 svr_bool
      · rename_i e hu
        simp only [Option.some.injEq, Prod.mk.injEq] at hnt
        obtain ⟨rfl, rfl⟩ := hnt
        unfold execOp; simp only [ho]
        refine After0.q (s := (do eqGuard .neq t x' (.const (.slice none 0 0)) (evT tm x') (evT tm (.const (.slice none 0 0))); binOp .neq t (evT tm x') (evT tm (.const (.slice none 0 0))) : Sem Value)) ?_
        rw [show evT tm (.const (.slice none 0 0)) = .slice none 0 0 from rfl, h1, Sem.run_bind, eqGuard_sl]
        simp only [Result.andThen_ok, binOp, Sem.run_bind, equal_sl_nil (und_ok hu)]
        have : b = !av.isNone := by rw [hb]; cases av <;> rfl
        subst this
        exact hi.after0 svr_bool
      · cases hnt
    · cases hnt
  cases av with
  | none => exact ⟨u, key u rfl, .inl ⟨rfl, h2 rfl⟩⟩
  | some _ => exact ⟨!u, key (!u) rfl, .inr ⟨rfl, h3⟩⟩
theorem doOp_run {R : Type} {E' : Env} {fn : E'.Fn} {inl : Inl} {f : FuncId} (hT : E'.T = C.T) (hG : E'.G = C.G) (hfn : FnOk C.P E' fn) (hin : InlOk C.P E' inl) {o : Oper} {a : Act} {K : St → Option R} {res : R} (hd : a.defers = []) (hi : Inv C I β F σ w a.tmps) (he : doOp E' fn inl f none o σ K = some res)
    {next : Act → World → Prop} {Q : Exit → Act → World → Prop}
    (hn : ∀ σ' v w', K σ' = some res → (a.put o.dst v).defers = [] → (∃ I' β' F', Inv C I' β' F' σ' w' (a.put o.dst v).tmps) → (∀ i, some i ≠ o.dst → (a.put o.dst v).tmps.getD i undef = a.tmps.getD i undef) → next (a.put o.dst v) w') : o.wp C.P a w next Q := by
  have hg : Gok a.tmps none := fun d w h => by cases h
  have fin : ∀ {sv : SV} {v : Value} {σ1 : St} {w' : World} {I' : Set'} {β' : Nat → Value} {F' : Nat → List Nat}, Inv C I' β' F' σ1 w' a.tmps → SVR (hpOf w') C.L I' β' σ1.r sv v → putK σ1 o.dst sv K = some res → next (a.put o.dst v) w' := by
    intro sv v σ1 w' I' β' F' h3 h4 he
    obtain ⟨σ', g1, ⟨g0, g2⟩, g3⟩ := putK_ok hd h3 h4 he
    exact hn _ _ _ g1 g0 g2 g3
  unfold doOp at he
  unfold Oper.wp
  rw [act_eval]
  rw [hG] at he
  cases hc : calleeOf C.G σ none o with
  | none =>
    simp only [hc] at he
    cases hnt : nilTest E'.T o with
    | some p =>
      obtain ⟨x, u⟩ := p
      simp only [hnt] at he
      rw [hT] at hnt
      obtain ⟨b, ⟨v, k1, _, k3⟩, h⟩ := nil_after hi hg hnt he
      rw [k1, Oper.upon_value]
      rcases h with ⟨rfl, h⟩ | ⟨rfl, h⟩
      · exact fin hi k3 h
      · exact fin hi k3 h
    | none =>
      simp only [hnt] at he
      cases hop : opD E' f none o σ with
      | some p =>
        obtain ⟨c, sv, σ1⟩ := p
        simp only [hop] at he
        have hbr := br_some he
        clear he
        rcases hbr with ⟨rfl, he⟩ | ⟨_, he⟩
        · obtain ⟨nx, v, w', I', β', F', h1, h2, h3, h4, h5, h6, h7⟩ := opD_ok hi hg hT hG hop
          rw [h1]
          rcases h2 with rfl | ⟨rfl, rfl⟩
          · rw [Oper.upon_value]; exact fin h3 h4 he
          · rw [Oper.upon_skip]; exact fin h3 h4 he
        · cases he
      | none =>
        simp only [hop] at he
        unfold opK at he
        split at he
        · rename_i t x ho
          rw [hT, hG] at he
          obtain ⟨σ', sv, v, β', F', h1, h2, h3, h4⟩ := loadK_ok hi (arg_ok hi hg x) he
          have hrun : (execOp (evT a.tmps) o).run C.P w = .ok (.value v) w := by
            unfold execOp; simp only [ho, Sem.run_bind, h2, Result.andThen_ok, Sem.run_pure]
          rw [hrun, Oper.upon_value]
          exact fin h3 h4 h1
        · rename_i t x y okb ho
          rw [hT, hG] at he
          obtain ⟨σ', sv, v, β', F', h1, h2, h3, h4⟩ := lookK_ok hi (arg_ok hi hg x) (arg_ok hi hg y) he
          have hrun : (execOp (evT a.tmps) o).run C.P w = .ok (.value v) w := by
            unfold execOp; simp only [ho, Sem.run_bind, h2, Result.andThen_ok, Sem.run_pure]
          rw [hrun, Oper.upon_value]
          exact fin h3 h4 h1
        · rename_i t x y z ho
          rw [hT, hG] at he
          obtain ⟨σ', w', I', β', F', h1, h2, h3⟩ := updMK_ok hi (arg_ok hi hg x) (arg_ok hi hg y) (arg_ok hi hg z) he
          have hrun : (execOp (evT a.tmps) o).run C.P w = .ok .skip w' := by
            unfold execOp; simp only [ho, Sem.run_bind, h2, Result.andThen_ok, Sem.run_pure]
          rw [hrun, Oper.upon_skip]
          exact fin (sv := .x) h3 trivial h1
        · rename_i t x y z ho
          rw [hT, hG] at he
          obtain ⟨σ', w', I', β', F', h1, h2, h3⟩ := updMK_ok hi (arg_ok hi hg x) (arg_ok hi hg y) (arg_ok hi hg z) he
          have hrun : (execOp (evT a.tmps) o).run C.P w = .ok .skip w' := by
            unfold execOp; simp only [ho, Sem.run_bind, h2, Result.andThen_ok, Sem.run_pure]
          rw [hrun, Oper.upon_skip]
          exact fin (sv := .x) h3 trivial h1
        · rename_i c ho
          split at he
          · rename_i hcal
            split at he
            · rename_i x y t ts hargs htys
              rw [hT, hG] at he
              obtain ⟨σ', w', F', h1, h2, h3⟩ := delMK_ok (ty := o.type) (ts := ts) hi (arg_ok hi hg x) (arg_ok hi hg y) he
              have ha' : c.args = #[x, y] := by apply Array.toList_inj.1; simpa using hargs
              have ht' : c.argTypes = (t :: ts).toArray := by apply Array.toList_inj.1; simpa using htys
              have hrun : (execOp (evT a.tmps) o).run C.P w = .ok (.value (.tuple #[])) w' := by
                unfold execOp
                simp [ho, hcal, ha', ht', resolve, invoke, builtin, h2]
              rw [hrun, Oper.upon_value]
              exact fin (sv := .x) h3 trivial h1
            · cases he
          · cases he
        · cases he
  | some p =>
    obtain ⟨h, svs⟩ := p
    simp only [hc] at he
    obtain ⟨vs, hvs, hex⟩ := exec_call hi hg hc
    cases hk : E'.known h with
    | true =>
      simp only [hk] at he
      cases ha : argsV (E'.sig h).ps svs ⟨σ, [], [], [], []⟩ with
      | none => simp [ha] at he
      | some p =>
        obtain ⟨ar, p⟩ := p
        simp only [ha] at he
        cases hb : ((apart p.owns p.lents && apart p.moved p.boxes) && ((ioFree (E'.sig h).ps || nilL p.lents) && (there p.σ p.owns && there p.σ p.lents))) with
        | false => simp [hb] at he
        | true =>
          simp only [hb] at he
          simp only [Bool.and_eq_true] at hb
          obtain ⟨⟨b1, b2⟩, b3, b4, b5⟩ := hb
          obtain ⟨⟨q, ou⟩, hf, he⟩ := bd_some he
          obtain ⟨⟨fd, f1, f2, f3⟩, f4⟩ := hfn.2 h hk
          rw [hex f1 f2 f3, Oper.upon_enter]
          have hH := f4 ar q ou hf
          rw [hT, hG] at hH
          refine (call_ok hi hvs ha b1 b2 b3 b4 b5 hH).mono ?_
          rintro e w' ⟨v, rfl, I', F', vals, Ys, hC⟩
          simp only
          obtain ⟨σ', svs', β2, F2, k1, k2, k3, k4, k5, k6⟩ := retsK_ok (E'.sig h).rs hC.inv he hC.rets hC.taken
          rw [hC.val]
          exact fin k2 (tupV_ok k3) k1
    | false =>
      simp only [hk] at he
      cases hin' : E'.inl h with
      | true =>
        simp only [hin'] at he
        obtain ⟨⟨fd, f1, f2, f3⟩, f4⟩ := hin h svs _ R σ _ res hin' he
        rw [hex f1 f2 f3, Oper.upon_enter]
        refine (f4 C rfl hT.symm hG.symm hi hvs).mono ?_
        rintro e w' ⟨v, rfl, σ', svs', vals, I', β', F', rfl, k1, k2, k3⟩
        simp only
        exact fin k2 (tupV_ok k3) k1
      | false =>
        simp only [hin'] at he
        cases hop : E'.prim h o.dst svs σ with
        | none => simp [hop] at he
        | some p =>
          obtain ⟨c, sv, σ1⟩ := p
          simp only [hop] at he
          have hbr := br_some he
          clear he
          rcases hbr with ⟨rfl, he⟩ | ⟨_, he⟩
          · obtain ⟨⟨fd, f1, f2, f3⟩, f4⟩ := hfn.1 _ _ _ _ _ _ hop
            rw [hex f1 f2 f3, Oper.upon_enter]
            refine (f4 C rfl hT.symm hG.symm hi hvs).mono ?_
            rintro e w' ⟨v, rfl, I', β', F', h3, h4⟩
            simp only
            exact fin h3 h4 he
          · cases he
theorem doOp_ok {R : Type} {E' : Env} {fn : E'.Fn} {inl : Inl} {f : FuncId} (hT : E'.T = C.T) (hG : E'.G = C.G) (hfn : FnOk C.P E' fn) (hin : InlOk C.P E' inl) {o : Oper} {a : Act} {K : St → Option R} {res : R} (hs : Sat C σ w a) (he : doOp E' fn inl f none o σ K = some res)
    {next : Act → World → Prop} {Q : Exit → Act → World → Prop} (hn : ∀ σ' a' w', K σ' = some res → Sat C σ' w' a' → (∀ i, some i ≠ o.dst → a'.tmps.getD i undef = a.tmps.getD i undef) → next a' w') : o.wp C.P a w next Q := by
  obtain ⟨hd, I, β, F, hi⟩ := hs
  exact doOp_run hT hG hfn hin hd hi he fun σ' v w' h1 h2 h3 h4 => hn _ _ _ h1 ⟨h2, h3⟩ h4
end
end Go.Proofs.YthlpjdjipchdkaaDoor.E

namespace Go.Proofs.YthlpjdjipchdkaaDoor.E
open Go
set_option linter.unusedSimpArgs false
set_option linter.unusedVariables false
section
variable {C : Ctx} {I : Set'} {β : Nat → Value} {F : Nat → List Nat} {σ : St} {w : World} {tm : Array Value}
theorem nthO_eq : ∀ (l : List Oper) (n : Nat), nthO l n = l[n]?
  | [], n => by simp [nthO]
  | o :: l, 0 => rfl
  | o :: l, n + 1 => by simp [nthO, nthO_eq l n]
theorem dstOf_eq {all : List Oper} {j : Nat} : dstOf all j = (all[j]?).bind (·.dst) := by
  unfold dstOf
  rw [nthO_eq]
  cases all[j]? <;> rfl
theorem yielded_some {ops : Array Oper} {tm : Array Value} {j d : Nat} {b : Bool} (hd : dstOf ops.toList j = some d) (h : tm.getD d undef = .bool b) : yielded ops tm j = some b := by
  rw [dstOf_eq] at hd
  have h1 : (ops[j]?).bind (·.dst) = some d := by simpa using hd
  unfold yielded
  rw [h1]
  have h2 : tm[d]? = some (.bool b) := by
    rw [Array.getD_eq_getD_getElem?] at h
    cases hq : tm[d]? with
    | none => rw [hq] at h; simp [undef] at h
    | some v => rw [hq] at h; simp at h; rw [h]
  simp [h2]
theorem yielded_none {ops : Array Oper} {tm : Array Value} {j d : Nat} (hd : dstOf ops.toList j = some d) (h : tm.getD d undef = undef) : yielded ops tm j = none := by
  rw [dstOf_eq] at hd
  have h1 : (ops[j]?).bind (·.dst) = some d := by simpa using hd
  unfold yielded
  rw [h1]
  cases hq : tm[d]? with
  | none => simp [hq]
  | some v =>
    rw [Array.getD_eq_getD_getElem?, hq] at h
    simp at h
    subst h
    simp [hq, undef]
def dstL (l : List Oper) : List Nat := l.filterMap (·.dst)
theorem runOps_ok {R : Type} {E' : Env} {fn : E'.Fn} {inl : Inl} {f : FuncId} (hT : E'.T = C.T) (hG : E'.G = C.G) (hfn : FnOk C.P E' fn) (hin : InlOk C.P E' inl) (ops : Array Oper) {K : St → Option R} {res : R} {Q : Exit → Act → World → Prop} (a0 : Act) :
    ∀ (l : List Oper) (k : Nat) {σ : St} {w : World} {a : Act}, ops.toList.drop k = l → Sat C σ w a → (∀ i, i ∉ dstL ops.toList → a.tmps.getD i undef = a0.tmps.getD i undef) → runOps E' fn inl f ops.toList l σ K = some res →
      (∀ σ' a' w', K σ' = some res → Sat C σ' w' a' → (∀ i, i ∉ dstL ops.toList → a'.tmps.getD i undef = a0.tmps.getD i undef) → Q .normal a' w') → wpOps C.P ops Q (List.range' k l.length) a w
  | [], k, σ, w, a, _, hs, ht, he, hQ => hQ σ a w he hs ht
  | o :: l, k, σ, w, a, hl, hs, ht, he, hQ => by
    have ho : ops[k]? = some o := by
      have : ops.toList[k]? = some o := by
        have := congrArg (·[0]?) hl
        simpa using this
      simpa using this
    have hl' : ops.toList.drop (k + 1) = l := by
      rw [← List.drop_drop, hl]; rfl
    have hmem : ∀ d, o.dst = some d → d ∈ dstL ops.toList := fun d hd => by
      have : o ∈ ops.toList.drop k := by rw [hl]; simp
      exact List.mem_filterMap.2 ⟨o, List.mem_of_mem_drop this, hd⟩
    have hkeep : ∀ {a' : Act}, (∀ i, some i ≠ o.dst → a'.tmps.getD i undef = a.tmps.getD i undef) → ∀ i, i ∉ dstL ops.toList → a'.tmps.getD i undef = a0.tmps.getD i undef := by
      intro a' h i hi
      rw [h i (fun e => hi (hmem i e.symm)), ht i hi]
    rw [List.length_cons, List.range'_succ]
    simp only [wpOps, ho]
    have hrun : ∀ {σ : St}, Sat C σ w a → doOp E' fn inl f none o σ (fun σ => runOps E' fn inl f ops.toList l σ K) = some res → o.wp C.P a w (wpOps C.P ops Q (List.range' (k + 1) l.length)) Q :=
      fun hs he => doOp_ok hT hG hfn hin hs he fun σ' a' w' h1 h2 h3 => runOps_ok hT hG hfn hin ops a0 l (k + 1) hl' h2 (hkeep h3) h1 hQ
    have hskip : ∀ {σ : St} {d : Nat} {u : Bool}, Sat C σ w a → a.tmps.getD d undef ≠ .bool u → skipK σ o.dst d u (fun σ => runOps E' fn inl f ops.toList l σ K) = some res → wpOps C.P ops Q (List.range' (k + 1) l.length) (a.put o.dst undef) w := by
      rintro σ d u ⟨hdf, I, β, F, hi⟩ hne he
      unfold skipK at he
      cases hdst : o.dst with
      | none =>
        simp only [hdst] at he
        exact runOps_ok hT hG hfn hin ops a0 l (k + 1) hl' ⟨hdf, I, β, F, hi⟩ (hkeep fun i _ => rfl) he hQ
      | some e =>
        simp only [hdst] at he
        cases hc : (Nat.blt e σ.n && !(Nat.beq e d)) with
        | false => simp [hc] at he
        | true =>
          simp only [hc] at he
          simp only [Bool.and_eq_true, Bool.not_eq_true'] at hc
          have hlt : e < σ.n := by have := hc.1; simpa [Nat.blt_eq] using this
          have hde : e ≠ d := by rintro rfl; have := hc.2; simp at this
          refine runOps_ok hT hG hfn hin ops a0 l (k + 1) hl' ⟨hdf, I, β, F, hi.putC hlt hde (fun h => absurd h hne) (fun _ => rfl)⟩ (hkeep fun i hi' => ?_) he hQ
          show (a.tmps.setIfInBounds e undef).getD i undef = _
          rw [getD_set (by rw [hi.size]; exact hlt), if_neg (by rintro rfl; exact hi' hdst.symm)]
    simp only [runOps] at he
    cases hgd : o.guard with
    | none =>
      simp only [hgd] at he
      have : Region.wanted o (yielded ops a.tmps) = true := by simp [Region.wanted, hgd]
      simp only [this, if_true]
      exact .inl (hrun hs he)
    | some jw =>
      obtain ⟨j, u⟩ := jw
      simp only [hgd] at he
      cases hd : dstOf ops.toList j with
      | none => simp [hd] at he
      | some d =>
        simp only [hd] at he
        have hw1 : ∀ b, a.tmps.getD d undef = .bool b → Region.wanted o (yielded ops a.tmps) = (b == u) := by
          intro b hb; simp [Region.wanted, hgd, yielded_some hd hb]
        have hw2 : a.tmps.getD d undef = undef → Region.wanted o (yielded ops a.tmps) = false := by
          intro hb; simp [Region.wanted, hgd, yielded_none hd hb]
        have htest : (test 12 d σ fun b σ' => match b with
          | some b => match boolEq b u with
            | true => doOp E' fn inl f none o σ' fun σ => runOps E' fn inl f ops.toList l σ K
            | false => skipK σ' o.dst d u fun σ => runOps E' fn inl f ops.toList l σ K
          | none => skipK σ' o.dst d u fun σ => runOps E' fn inl f ops.toList l σ K) = some res → (if Region.wanted o (yielded ops a.tmps) = true then Oper.wp C.P o a w (wpOps C.P ops Q (List.range' (k + 1) l.length)) Q ∨ Oper.asks C.P o a w ∧ LetsOut Q else wpOps C.P ops Q (List.range' (k + 1) l.length) (a.put o.dst undef) w) := fun he => by
          obtain ⟨hdf, I, β, F, hi⟩ := hs
          obtain ⟨b, σ', h1, h2, h3⟩ := test_ok 12 hi he
          cases b with
          | none =>
            rw [hw2 h3]
            simp only [Bool.false_eq_true, if_false]
            exact hskip ⟨hdf, I, β, F, h2⟩ (by simp only [Tested] at h3; rw [h3]; simp [undef]) h1
          | some b =>
            simp only at h1
            rw [hw1 b h3]
            cases hbu : boolEq b u with
            | true =>
              simp only [hbu] at h1
              obtain rfl := boolEq_iff hbu
              simp only [beq_self_eq_true, if_true]
              exact .inl (hrun ⟨hdf, I, β, F, h2⟩ h1)
            | false =>
              simp only [hbu] at h1
              have : (b == u) = false := by cases b <;> cases u <;> first | rfl | (simp [boolEq] at hbu)
              simp only [this, Bool.false_eq_true, if_false]
              exact hskip ⟨hdf, I, β, F, h2⟩ (by simp only [Tested] at h3; rw [h3]; intro e; simp only [Value.bool.injEq] at e; subst e; simp at this) h1
        cases htot : total o with
        | true =>
          simp only [htot] at he
          cases hop : opD E' f (some (d, u)) o σ with
          | none => simp only [hop] at he; exact htest he
          | some p =>
            obtain ⟨c, sv, σ1⟩ := p
            simp only [hop] at he
            have hbr := br_some he
            clear he
            rcases hbr with ⟨rfl, he⟩ | ⟨_, he⟩
            · cases hdst : o.dst with
              | none => simp [hdst] at he
              | some e =>
                simp only [hdst] at he
                cases hc : (Nat.blt e σ.n && !(Nat.beq e d)) with
                | false => simp [hc] at he
                | true =>
                  simp only [hc, force_eq] at he
                  simp only [Bool.and_eq_true, Bool.not_eq_true'] at hc
                  have hlt : e < σ.n := by have := hc.1; simpa [Nat.blt_eq] using this
                  have hne : e ≠ d := by rintro rfl; have := hc.2; simp at this
                  obtain ⟨hdf, I, β, F, hi⟩ := hs
                  have hkeep' : ∀ v i, i ∉ dstL ops.toList → (a.put (some e) v).tmps.getD i undef = a0.tmps.getD i undef := by
                    intro v
                    refine hkeep fun i hi' => ?_
                    show (a.tmps.setIfInBounds e v).getD i undef = _
                    rw [getD_set (by rw [hi.size]; exact hlt), if_neg (by rintro rfl; exact hi' hdst.symm)]
                  by_cases hb : a.tmps.getD d undef = .bool u
                  · have hw := hw1 u hb
                    simp only [beq_self_eq_true] at hw
                    simp only [hw, if_true]
                    refine .inl ?_
                    obtain ⟨v, h1, _, h2⟩ := opQ_ok hi (g := some (d, u)) (fun d' u' h => by simp only [Option.some.injEq, Prod.mk.injEq] at h; obtain ⟨rfl, rfl⟩ := h; exact hb) hT hG (total_quiet htot) hop
                    unfold Oper.wp
                    rw [act_eval, h1, Oper.upon_value, hdst]
                    exact runOps_ok hT hG hfn hin ops a0 l (k + 1) hl' ⟨hdf, I, β, F, hi.putC hlt hne (fun _ => h2) (fun h => absurd hb h)⟩ (hkeep' v) he hQ
                  · have hw : Region.wanted o (yielded ops a.tmps) = false := by
                      cases hy : yielded ops a.tmps j with
                      | none => simp [Region.wanted, hgd, hy]
                      | some b =>
                        have : a.tmps.getD d undef = .bool b := by
                          unfold yielded at hy
                          have h1 : (ops[j]?).bind (·.dst) = some d := by rw [dstOf_eq] at hd; simpa using hd
                          rw [h1] at hy
                          simp only [Option.bind_some] at hy
                          split at hy
                          · rename_i b' hq
                            simp at hy
                            subst hy
                            rw [Array.getD_eq_getD_getElem?, hq]; rfl
                          · cases hy
                        rw [hw1 b this]
                        cases hbu : (b == u) with
                        | false => rfl
                        | true => exact absurd (by rw [this, eq_of_beq hbu]) hb
                    simp only [hw, Bool.false_eq_true, if_false]
                    exact runOps_ok hT hG hfn hin ops a0 l (k + 1) hl' ⟨hdf, I, β, F, hi.putC hlt hne (fun h => absurd h hb) (fun _ => rfl)⟩ (hkeep' undef) he hQ
            · cases he
        | false =>
          simp only [htot] at he
          exact htest he
end
end Go.Proofs.YthlpjdjipchdkaaDoor.E

namespace Go.Proofs.YthlpjdjipchdkaaDoor.E
open Go
set_option linter.unusedSimpArgs false
set_option linter.unusedVariables false
section
variable {C : Ctx} {β : Nat → Value} {F : Nat → List Nat} {w : World} {tm : Array Value}
def resF (tm : Array Value) : ResultVar → Sem Value
  | .tmp t => pure (tm.getD t undef)
  | .cell a t => do loadVar t (← asAddr (tm.getD a undef))
theorem load_sure {t : TypeId} {va v : Value} (h : (Instr.loadAt t va).run C.P w = .ok v w) : (do loadVar t (← asAddr va) : Sem Value).run C.P w = .ok v w := by
  unfold Instr.loadAt at h
  cases va with
  | pointer a =>
    cases a with
    | some a => simpa [Instr.sureAddr, asAddr] using h
    | none => simp [Instr.sureAddr, Sem.run_bind, stuck] at h
  | _ => simp [Instr.sureAddr, Sem.run_bind, stuck] at h
structure TakenL (C : Ctx) (I : Set') (β : Nat → Value) (F : Nat → List Nat) (σ σ' : St) (w : World) (tm : Array Value) (I' : Set') (Y : List Nat) : Prop where
  inv : Inv C I' β F σ' w tm
  less : Less F I σ I' σ'
  taken : Taken C I' F σ' w Y
  from_ : ∀ b ∈ Y, ∃ k R, look σ.r k = some R ∧ b ∈ F k
theorem taken_one {τ : Ty} {rs : List Ty} {I : Set'} {rv : List ResultVar} {x : ResultVar} {σ σ' : St} {q : denL (τ :: rs)} {v : Value} {sv : SV} (hi : Inv C I β F σ w tm) (hsv : SVR (hpOf w) C.L I β σ.r sv v) (hx : (resF tm x).run C.P w = .ok v w)
    (ih : ∀ {I : Set'} {σ σ' : St} {q : denL rs}, Inv C I β F σ w tm → takesV C.T rs rv σ = some (q, σ') →
      ∃ I' Ys vals, TakenL C I β F σ σ' w tm I' Ys.flatten ∧ RetsR (hpOf w) (Sx C.L I' false) rs q vals Ys ∧ (rv.mapM (resF tm)).run C.P w = .ok vals w)
    (he : (match takeV σ τ sv with
      | some (a, σ) => match takesV C.T rs rv σ with
        | some (r, σ) => some ((a, r), σ)
        | none => none
      | none => none) = some (q, σ')) :
    ∃ I' Ys vals, TakenL C I β F σ σ' w tm I' Ys.flatten ∧ RetsR (hpOf w) (Sx C.L I' false) (τ :: rs) q vals Ys ∧ ((x :: rv).mapM (resF tm)).run C.P w = .ok vals w := by
  cases h1 : takeV σ τ sv with
  | none => simp [h1] at he
  | some p =>
    obtain ⟨y, σ1⟩ := p
    simp only [h1] at he
    cases h2 : takesV C.T rs rv σ1 with
    | none => simp [h2] at he
    | some p =>
      obtain ⟨r, σ2⟩ := p
      simp only [h2, Option.some.injEq, Prod.mk.injEq] at he
      obtain ⟨rfl, rfl⟩ := he
      obtain ⟨I1, cs, Y, k1, k2, hr, hv, k3, k4⟩ := takeV_ok hi hsv h1
      obtain ⟨I2, Ys, vals, hT2, hrs, hrv⟩ := ih k1 h2
      have hYI : ∀ b ∈ Y, ¬ I2 b := fun b hb h => by
        rcases hT2.less.from' b h with h | ⟨k, R, g1, _, g2⟩
        · exact (k3.own b hb).1 h
        · exact k3.apart k R g1 b g2 hb
      have hback : ∀ k R, look σ1.r k = some R → ∃ R0, look σ.r k = some R0 := fun k R h => by obtain ⟨R0, h0, _⟩ := k2.back h; exact ⟨R0, h0⟩
      have hsub2 : ∀ b, Sx C.L I1 false b → Sx C.L I2 false b := fun b hb => by
        rcases hb with hb | ⟨hb, _⟩
        · exact .inl (hT2.less.sub b hb)
        · cases hb
      refine ⟨I2, Y :: Ys, v :: vals, ⟨hT2.inv, k2.trans hT2.less, ⟨?_, ?_, ?_⟩, ?_⟩, ⟨⟨cs, Rep.keep (fun b hb => ⟨hsub2 b hb, rfl⟩) (fun _ _ => rfl) hr, hv⟩, hrs⟩, by rw [List.mapM_cons]; simp [Sem.run_bind, hx, hrv]⟩
      · simp only [List.flatten_cons, List.nodup_append]
        refine ⟨k3.nodup, hT2.taken.nodup, ?_⟩
        rintro b hb c hc rfl
        obtain ⟨k, R, g1, g2⟩ := hT2.from_ b hc
        exact k3.apart k R g1 b g2 hb
      · intro b hb
        simp only [List.flatten_cons, List.mem_append] at hb
        rcases hb with hb | hb
        · have := k3.own b hb; exact ⟨hYI b hb, this.2⟩
        · exact hT2.taken.own b hb
      · intro k R hk b hb hb'
        simp only [List.flatten_cons, List.mem_append] at hb'
        rcases hb' with hb' | hb'
        · obtain ⟨R0, h0, _⟩ := hT2.less.back hk
          exact k3.apart k R0 h0 b hb hb'
        · exact hT2.taken.apart k R hk b hb hb'
      · intro b hb
        simp only [List.flatten_cons, List.mem_append] at hb
        rcases hb with hb | hb
        · exact k4 b hb
        · obtain ⟨k, R, g1, g2⟩ := hT2.from_ b hb
          obtain ⟨R0, h0⟩ := hback k R g1
          exact ⟨k, R0, h0, g2⟩
theorem takesV_ok : ∀ (rs : List Ty) {I : Set'} {rv : List ResultVar} {σ σ' : St} {q : denL rs}, Inv C I β F σ w tm → takesV C.T rs rv σ = some (q, σ') →
    ∃ I' Ys vals, TakenL C I β F σ σ' w tm I' Ys.flatten ∧ RetsR (hpOf w) (Sx C.L I' false) rs q vals Ys ∧ (rv.mapM (resF tm)).run C.P w = .ok vals w
  | [], I, [], σ, σ', q, hi, he => by
    simp [takesV] at he
    obtain ⟨_, rfl⟩ := he
    exact ⟨I, [], [], ⟨hi, Less.refl, ⟨by simp, by simp, by simp⟩, by simp⟩, trivial, rfl⟩
  | [], I, _ :: _, σ, σ', q, hi, he => by simp [takesV] at he
  | _ :: _, I, [], σ, σ', q, hi, he => by simp [takesV] at he
  | τ :: rs, I, .cell s ty :: rv, σ, σ', q, hi, he => by
    simp only [takesV] at he
    split at he
    · rename_i sv σ1 h0
      obtain ⟨v, k1, k2, k3⟩ := opLoad_ok hi (hi.slots s) h0
      subst k2
      exact taken_one hi k3 (load_sure k1) (fun h1 h2 => takesV_ok rs h1 h2) he
    · cases he
  | τ :: rs, I, .tmp t :: rv, σ, σ', q, hi, he => by
    simp only [takesV] at he
    exact taken_one hi (hi.slots t) (by simp [resF]) (fun h1 h2 => takesV_ok rs h1 h2) he
def RetS (C : Ctx) (rs : List Ty) (rv : List ResultVar) (q : denL rs) (σ : St) (w : World) (a : Act) : Prop :=
  a.defers = [] ∧ ∃ vals, (rv.mapM (resF a.tmps)).run C.P w = .ok vals w ∧ ∃ I β F Ys, Inv C I β F σ w a.tmps ∧ RetsR (hpOf w) (Sx C.L I false) rs q vals Ys ∧ Taken C I F σ w Ys.flatten
theorem ret_ok {rs : List Ty} {rv : List ResultVar} {σ σ' : St} {q : denL rs} {a : Act} (hs : Sat C σ w a) (he : takesV C.T rs rv σ = some (q, σ')) : RetS C rs rv q σ' w a := by
  obtain ⟨hd, I, β, F, hi⟩ := hs
  obtain ⟨I', Ys, vals, hT, hR, hrv⟩ := takesV_ok rs hi he
  exact ⟨hd, vals, hrv, I', β, F, Ys, hT.inv, hR, hT.taken⟩
end
end Go.Proofs.YthlpjdjipchdkaaDoor.E

namespace Go.Proofs.YthlpjdjipchdkaaDoor.E
open Go
set_option linter.unusedSimpArgs false
set_option linter.unusedVariables false
def LV.nm : LV → Option Nat
  | .t _ _ _ => none
  | .r n _ _ _ => some n
  | .a n _ _ => some n
  | .m n _ _ _ => some n
  | .o _ n _ _ => some n
def LV.src (σ : St) : LV → Option Nat
  | .t _ _ _ => none
  | .r n _ _ _ => some n
  | .a n _ _ => some n
  | .m n _ _ _ => some n
  | .o s _ _ _ => match find σ.t s with | .sf k => some k | _ => none
def LV.root : (x : LV) → den x.ty → Root
  | .t _ _ _, _ => .box false .unit ()
  | .r _ len τ _, y => .box len τ y
  | .a _ len τ, y => .arr false len τ y
  | .m _ len k v, y => .map len k v y none
  | .o _ _ len τ, y => .arr false len τ y
def LV.val (β : Nat → Value) (tm : Array Value) : LV → Value
  | .t _ _ _ => undef
  | .r n _ _ _ => β n
  | .a n _ _ => β n
  | .m n _ _ _ => β n
  | .o s _ _ _ => tm.getD s undef
def LV.blk (σ : St) (F : Nat → List Nat) (x : LV) : List Nat := match x.src σ with | some k => F k | none => []
def LV.Ext (σ : St) : (x : LV) → den x.ty → Prop
  | .t s len τ, y => toV len τ (find σ.t s) = some y
  | .r n len τ _, y => ∃ len' t0 y0, look (St.r σ) n = some (.box len' t0 y0) ∧ (!len' || len) = true ∧ coe τ t0 y0 = some y
  | .a n len τ, y => ∃ f len', look (St.r σ) n = some (.arr f len' τ y) ∧ (!len' || len) = true
  | .m n len k v, y => ∃ len', look (St.r σ) n = some (.map len' k v y none) ∧ (!len' || len) = true
  | .o s _ len τ, y => (∃ n f len', find (St.t σ) s = .sf n ∧ look (St.r σ) n = some (.arr f len' τ y) ∧ (!len' || len) = true) ∨ (find (St.t σ) s = .nl ∧ y = [])
def Exts (σ : St) : (xs : List LV) → denL (xtys xs) → Prop
  | [], _ => True
  | x :: l, (a, r) => x.Ext σ a ∧ Exts σ l r
theorem extract_exts {σ : St} : ∀ {xs : List LV} {xv : denL (xtys xs)}, extract σ xs = some xv → Exts σ xs xv
  | [], _, _ => trivial
  | .t s len τ :: l, (a, xv), he => by
    simp only [extract] at he
    cases h1 : toV len τ (find σ.t s) with
    | none => simp [h1] at he
    | some y =>
      cases h2 : extract σ l with
      | none => simp [h1, h2] at he
      | some r =>
        simp [h1, h2] at he
        obtain ⟨rfl, rfl⟩ := he
        exact ⟨h1, extract_exts h2⟩
  | .r n len τ τr :: l, (a, xv), he => by
    simp only [extract] at he
    split at he
    · rename_i len' t b hl
      split at he
      · rename_i y r hlen hc hr
        cases he
        exact ⟨⟨len', t, b, hl, hlen, hc⟩, extract_exts hr⟩
      · simp at he
    · simp at he
  | .a n len τ :: l, (a, xv), he => by
    simp only [extract] at he
    split at he
    · rename_i f len' t b hl
      split at he
      · rename_i y r hlen hc hr
        cases he
        obtain ⟨h0, hx⟩ := cast?_some hc
        simp only [Ty.sl.injEq, true_and] at h0
        subst h0
        have := eq_of_heq hx
        subst this
        exact ⟨⟨f, len', hl, hlen⟩, extract_exts hr⟩
      · simp at he
    · simp at he
  | .m n len k v :: l, (a, xv), he => by
    simp only [extract] at he
    split at he
    · rename_i len' k' v' b hl
      split at he
      · rename_i y r hlen hc hr
        cases he
        obtain ⟨h0, hx⟩ := cast?_some hc
        simp only [Ty.map.injEq, true_and] at h0
        obtain ⟨rfl, rfl⟩ := h0
        have := eq_of_heq hx
        subst this
        exact ⟨⟨len', hl, hlen⟩, extract_exts hr⟩
      · simp at he
    · simp at he
  | .o s n len τ :: l, (a, xv), he => by
    simp only [extract] at he
    split at he
    · rename_i m hf
      split at he
      · rename_i f len' t b hl
        split at he
        · rename_i y r hlen hc hr
          cases he
          obtain ⟨h0, hx⟩ := cast?_some hc
          simp only [Ty.sl.injEq, true_and] at h0
          subst h0
          have := eq_of_heq hx
          subst this
          exact ⟨.inl ⟨m, f, len', hf, hl, hlen⟩, extract_exts hr⟩
        · simp at he
      · simp at he
    · rename_i hf
      cases h2 : extract σ l with
      | none => simp [h2] at he
      | some r =>
        simp only [h2, Option.some.injEq] at he
        cases he
        exact ⟨.inr ⟨hf, rfl⟩, extract_exts h2⟩
    · simp at he
theorem xroots_cons {x : LV} {l : List LV} {a : den x.ty} {r : denL (xtys l)} : xroots (x :: l) (a, r) = match x.nm with | some n => (n, x.root a) :: xroots l r | none => xroots l r := by
  cases x <;> rfl
theorem xnames_cons {x : LV} {l : List LV} : xnames (x :: l) = match x.nm with | some n => n :: xnames l | none => xnames l := by cases x <;> rfl
theorem taken_cons {σ : St} {x : LV} {l : List LV} : takenNames σ (x :: l) = match x.src σ with | some n => n :: takenNames σ l | none => takenNames σ l := by
  cases x <;> first | rfl | skip
  rename_i s n len τ
  cases hf : find σ.t s <;> simp only [takenNames, LV.src, hf]
def srcB (β : Nat → Value) (tm : Array Value) : List LV → Nat → Value
  | [], k => β k
  | x :: l, k => if x.nm = some k then x.val β tm else srcB β tm l k
def srcF (σ : St) (F : Nat → List Nat) : List LV → Nat → List Nat
  | [], _ => []
  | x :: l, k => if x.nm = some k then x.blk σ F else srcF σ F l k
theorem xlook {σ : St} {β : Nat → Value} {F : Nat → List Nat} {tm : Array Value} : ∀ {xs : List LV} {xv : denL (xtys xs)} {k : Nat} {R : Root}, Exts σ xs xv → look (xroots xs xv) k = some R →
    ∃ x, x ∈ xs ∧ x.nm = some k ∧ ∃ a : den x.ty, R = x.root a ∧ x.Ext σ a ∧ srcB β tm xs k = x.val β tm ∧ srcF σ F xs k = x.blk σ F
  | [], _, k, R, _, h => by simp [xroots, look] at h
  | x :: l, (a, xv), k, R, ⟨h1, h2⟩, h => by
    rw [xroots_cons] at h
    have rec' : x.nm ≠ some k → look (xroots l xv) k = some R → ∃ x', x' ∈ x :: l ∧ x'.nm = some k ∧ ∃ a : den x'.ty, R = x'.root a ∧ x'.Ext σ a ∧ srcB β tm (x :: l) k = x'.val β tm ∧ srcF σ F (x :: l) k = x'.blk σ F := by
      intro hne hl
      obtain ⟨x', g1, g2, a', g3, g4, g5, g6⟩ := xlook (β := β) (F := F) (tm := tm) h2 hl
      exact ⟨x', by simp [g1], g2, a', g3, g4, by simp only [srcB, if_neg hne]; exact g5, by simp only [srcF, if_neg hne]; exact g6⟩
    cases hn : x.nm with
    | none =>
      rw [hn] at h
      exact rec' (by rw [hn]; simp) h
    | some n =>
      rw [hn] at h
      simp only at h
      by_cases e : k = n
      · subst e
        rw [look_cons_same] at h
        obtain rfl := Option.some.inj h
        exact ⟨x, by simp, hn, a, rfl, h1, by simp only [srcB, if_pos hn], by simp only [srcF, if_pos hn]⟩
      · rw [look_cons_ne e] at h
        exact rec' (by rw [hn]; intro e'; exact e (Option.some.inj e').symm) h
theorem xlook_name {xs : List LV} : ∀ {xv : denL (xtys xs)} {k : Nat}, look (xroots xs xv) k ≠ none ↔ k ∈ xnames xs := by
  induction xs with
  | nil => intro xv k; simp [xroots, xnames, look]
  | cons x l ih =>
    intro xv k
    obtain ⟨a, xv⟩ := xv
    rw [xroots_cons, xnames_cons]
    cases hn : x.nm with
    | none => exact ih
    | some n =>
      simp only
      by_cases e : k = n
      · subst e; rw [look_cons_same]; simp
      · rw [look_cons_ne e, ih]; simp [e]
theorem xlook_mem {σ : St} {β : Nat → Value} {tm : Array Value} : ∀ {xs : List LV} {xv : denL (xtys xs)}, (xnames xs).Nodup → Exts σ xs xv → ∀ {x : LV} {k : Nat}, x ∈ xs → x.nm = some k →
    ∃ a : den x.ty, x.Ext σ a ∧ look (xroots xs xv) k = some (x.root a) ∧ srcB β tm xs k = x.val β tm
  | [], _, _, _, x, k, hx, _ => by simp at hx
  | y :: l, (b, xv), hn, ⟨h1, h2⟩, x, k, hx, hk => by
    rw [xnames_cons] at hn
    rw [xroots_cons]
    rcases List.mem_cons.1 hx with rfl | hx
    · rw [hk]
      exact ⟨b, h1, look_cons_same, by simp only [srcB, if_pos hk]⟩
    · have hkl : k ∈ xnames l := by
        have : ∀ {l : List LV}, x ∈ l → k ∈ xnames l := by
          intro l
          induction l with
          | nil => intro h; simp at h
          | cons z l ih =>
            intro h
            rw [xnames_cons]
            rcases List.mem_cons.1 h with rfl | h
            · rw [hk]; simp
            · cases hz : z.nm with
              | none => exact ih h
              | some n => simp [ih h]
        exact this hx
      cases hy : y.nm with
      | none =>
        rw [hy] at hn
        obtain ⟨a, g1, g2, g3⟩ := xlook_mem (β := β) (tm := tm) hn h2 hx hk
        exact ⟨a, g1, g2, by simp only [srcB, hy]; exact g3⟩
      | some n =>
        rw [hy] at hn
        simp only at hn
        obtain ⟨hn1, hn2⟩ := List.nodup_cons.1 hn
        have hne : k ≠ n := by rintro rfl; exact hn1 hkl
        obtain ⟨a, g1, g2, g3⟩ := xlook_mem (β := β) (tm := tm) hn2 h2 hx hk
        exact ⟨a, g1, by rw [look_cons_ne hne]; exact g2, by simp only [srcB, hy, Option.some.injEq]; rw [if_neg (fun e => hne e.symm)]; exact g3⟩
theorem src_mem {σ : St} {r : Nat} : ∀ {xs : List LV} {x : LV}, x ∈ xs → x.src σ = some r → r ∈ takenNames σ xs
  | y :: l, x, hx, hr => by
    rw [taken_cons]
    rcases List.mem_cons.1 hx with rfl | hx
    · rw [hr]; simp
    · have := src_mem hx hr
      cases y.src σ with
      | none => exact this
      | some n => simp [this]
theorem taken_mem {σ : St} {r : Nat} : ∀ {xs : List LV}, r ∈ takenNames σ xs → ∃ x ∈ xs, x.src σ = some r
  | [], h => by simp [takenNames] at h
  | y :: l, h => by
    rw [taken_cons] at h
    cases hy : y.src σ with
    | none =>
      rw [hy] at h
      obtain ⟨x, h1, h2⟩ := taken_mem h
      exact ⟨x, by simp [h1], h2⟩
    | some n =>
      rw [hy] at h
      rcases List.mem_cons.1 h with rfl | h
      · exact ⟨y, by simp, hy⟩
      · obtain ⟨x, h1, h2⟩ := taken_mem h
        exact ⟨x, by simp [h1], h2⟩
theorem src_inj {σ : St} {r : Nat} : ∀ {xs : List LV}, (takenNames σ xs).Nodup → ∀ {x x' : LV}, x ∈ xs → x' ∈ xs → x.src σ = some r → x'.src σ = some r → x.nm = x'.nm
  | y :: l, hn, x, x', hx, hx', h, h' => by
    rw [taken_cons] at hn
    have hnl : (takenNames σ l).Nodup := by
      cases hy : y.src σ with
      | none => rw [hy] at hn; exact hn
      | some n => rw [hy] at hn; exact (List.nodup_cons.1 hn).2
    rcases List.mem_cons.1 hx with e1 | g1 <;> rcases List.mem_cons.1 hx' with e2 | g2
    · rw [e1, e2]
    · rw [← e1, h] at hn; exact ((List.nodup_cons.1 hn).1 (src_mem g2 h')).elim
    · rw [← e2, h'] at hn; exact ((List.nodup_cons.1 hn).1 (src_mem g1 h)).elim
    · exact src_inj hnl g1 g2 h h'
theorem coe_holes : ∀ {τ t : Ty} {x : den t} {y : den τ} {o : Nat}, coe τ t x = some y → ∀ p ∈ holesOf τ o, p ∈ holesOf t o
  | .pair a b, t, x, y, o, h, p, hp => by
    cases t with
    | pair c d =>
      simp only [coe] at h
      cases ha : coe a c x.1 with
      | none => simp [ha] at h
      | some q1 =>
        cases hb : coe b d x.2 with
        | none => simp [ha, hb] at h
        | some q2 =>
          have hsz := layB_size (coe_lay ha)
          simp only [holesOf, List.mem_append] at hp ⊢
          rcases hp with hp | hp
          · exact .inl (coe_holes ha p hp)
          · right; rw [hsz]; exact coe_holes hb p hp
    | _ =>
      simp only [coe] at h
      obtain ⟨e, _⟩ := cast?_some h
      cases e
  | .hole k, t, x, y, o, h, p, hp => by
    simp only [coe] at h
    obtain ⟨e, _⟩ := cast?_some h
    cases e; exact hp
  | .int _, t, x, y, o, h, p, hp | .bool, t, x, y, o, h, p, hp | .str, t, x, y, o, h, p, hp | .unit, t, x, y, o, h, p, hp | .arr _ _, t, x, y, o, h, p, hp | .sl _ _, t, x, y, o, h, p, hp | .ptr _ _, t, x, y, o, h, p, hp
  | .ref _ _, t, x, y, o, h, p, hp | .map _ _ _, t, x, y, o, h, p, hp | .raw _ _, t, x, y, o, h, p, hp | .nils, t, x, y, o, h, p, hp | .nilp, t, x, y, o, h, p, hp => by simp [holesOf] at hp
theorem solidK_mem {ns : List Nat} : ∀ {t : Ty} {o : Nat}, solidK ns t = true → ∀ p ∈ holesOf t o, p.2 ∈ ns
  | .hole k, o, h, p, hp => by
    simp only [holesOf, List.mem_singleton] at hp
    subst hp
    exact natMem_iff.1 h
  | .pair a b, o, h, p, hp => by
    simp only [solidK, Bool.and_eq_true] at h
    simp only [holesOf, List.mem_append] at hp
    rcases hp with hp | hp
    · exact solidK_mem h.1 p hp
    · exact solidK_mem h.2 p hp
  | .int _, o, h, p, hp | .bool, o, h, p, hp | .str, o, h, p, hp | .unit, o, h, p, hp | .arr _ _, o, h, p, hp | .sl _ _, o, h, p, hp | .ptr _ _, o, h, p, hp
  | .ref _ _, o, h, p, hp | .map _ _ _, o, h, p, hp | .raw _ _, o, h, p, hp | .nils, o, h, p, hp | .nilp, o, h, p, hp => by simp [holesOf] at hp
theorem ram_mem {n : Nat} : ∀ {xs : List LV}, n ∈ ramN xs → ∃ x ∈ xs, x.nm = some n ∧ (∀ σ, x.src σ = some n) ∧ (∀ β tm, x.val β tm = β n) ∧ ∀ (σ : St) (a : den x.ty), x.Ext σ a → look σ.r n ≠ none
  | [], h => by simp [ramN] at h
  | .r k len τ τr :: l, h => by
    simp only [ramN, List.mem_cons] at h
    rcases h with rfl | h
    · exact ⟨.r n len τ τr, by simp, rfl, fun _ => rfl, fun _ _ => rfl, fun σ a ⟨_, _, _, h, _⟩ => by rw [h]; simp⟩
    · obtain ⟨x, h1, h2⟩ := ram_mem h; exact ⟨x, by simp [h1], h2⟩
  | .a k len τ :: l, h => by
    simp only [ramN, List.mem_cons] at h
    rcases h with rfl | h
    · exact ⟨.a n len τ, by simp, rfl, fun _ => rfl, fun _ _ => rfl, fun σ a ⟨_, _, h, _⟩ => by rw [h]; simp⟩
    · obtain ⟨x, h1, h2⟩ := ram_mem h; exact ⟨x, by simp [h1], h2⟩
  | .m k len kt vt :: l, h => by
    simp only [ramN, List.mem_cons] at h
    rcases h with rfl | h
    · exact ⟨.m n len kt vt, by simp, rfl, fun _ => rfl, fun _ _ => rfl, fun σ a ⟨_, h, _⟩ => by rw [h]; simp⟩
    · obtain ⟨x, h1, h2⟩ := ram_mem h; exact ⟨x, by simp [h1], h2⟩
  | .t _ _ _ :: l, h => by obtain ⟨x, h1, h2⟩ := ram_mem (xs := l) h; exact ⟨x, by simp [h1], h2⟩
  | .o _ _ _ _ :: l, h => by obtain ⟨x, h1, h2⟩ := ram_mem (xs := l) h; exact ⟨x, by simp [h1], h2⟩
theorem holesFit_r {ns : List Nat} : ∀ {xs : List LV}, holesFit ns xs = true → ∀ {n : Nat} {len : Bool} {τ τr : Ty}, LV.r n len τ τr ∈ xs → solidK ns τ = true ∧ solid τr = true ∧ layB τ τr = true
  | x :: l, h, n, len, τ, τr, hm => by
    have hl : holesFit ns l = true := by
      cases x <;> simp only [holesFit, Bool.and_eq_true] at h <;> first | exact h.2 | exact h
    rcases List.mem_cons.1 hm with rfl | hm
    · simp only [holesFit, Bool.and_eq_true] at h; exact ⟨h.1.1, h.1.2.1, h.1.2.2⟩
    · exact holesFit_r hl hm
theorem holesFit_t {ns : List Nat} : ∀ {xs : List LV}, holesFit ns xs = true → ∀ {s : Nat} {len : Bool} {τ : Ty}, LV.t s len τ ∈ xs → solid τ = true
  | x :: l, h, s, len, τ, hm => by
    have hl : holesFit ns l = true := by
      cases x <;> simp only [holesFit, Bool.and_eq_true] at h <;> first | exact h.2 | exact h
    rcases List.mem_cons.1 hm with rfl | hm
    · simp only [holesFit, Bool.and_eq_true] at h; exact h.1
    · exact holesFit_t hl hm
section
variable {C : Ctx} {I : Set'} {β : Nat → Value} {F : Nat → List Nat} {w : World} {tm : Array Value}
structure Kept (C : Ctx) (I : Set') (w : World) (v : Value) (R : Root) (X : List Nat) : Prop where
  root : RootR (hpOf w) C.L I v R X
  nodup : X.Nodup
  own : ∀ b ∈ X, ¬ I b ∧ ¬ C.L b ∧ b < w.heap.size ∧ (C.X b ∨ C.n ≤ b)
structure Src (C : Ctx) (I : Set') (β : Nat → Value) (F : Nat → List Nat) (σ : St) (w : World) (tm : Array Value) (xs : List LV) : Prop where
  kept : ∀ r ∈ takenNames σ xs, ∀ R, look σ.r r = some R → Kept C I w (β r) R (F r)
  holes : ∀ r ∈ takenNames σ xs, ∀ R, look σ.r r = some R → RootH (hpOf w) β σ.r (β r) R
  disj : ∀ r ∈ takenNames σ xs, ∀ r' ∈ takenNames σ xs, ∀ R R', r ≠ r' → look σ.r r = some R → look σ.r r' = some R' → ∀ b ∈ F r, b ∉ F r'
  slots : ∀ i, SVR (hpOf w) C.L I β σ.r (find σ.t i) (tm.getD i undef)
theorem Sx.up {L L' I I' : Set'} {l l' : Bool} (hL : ∀ b, L b → L' b) (hI : ∀ b, I b → I' b) (hl : l = true → l' = true) : ∀ b, Sx L I l b → Sx L' I' l' b := by
  intro b hb
  rcases hb with hb | ⟨h1, h2⟩
  · exact .inl (hI b hb)
  · exact .inr ⟨hl h1, hL b h2⟩
theorem Rep.wide {h : Hp} {S S' : Set'} {l : Bool} {t : Ty} {x : den t} {cs : List Value} {X : List Nat} (hS : ∀ b, S b → S' b) (hr : Rep h S l t x cs X) : Rep h S' l t x cs X :=
  Rep.keep (fun b hb => ⟨hS b hb, rfl⟩) (fun _ _ => rfl) hr
theorem xkept {σ : St} {xs : List LV} (hS : Src C I β F σ w tm xs) {x : LV} (hx : x ∈ xs) {k : Nat} (hk : x.nm = some k) {a : den x.ty} (he : x.Ext σ a) : Kept C I w (x.val β tm) (x.root a) (x.blk σ F) := by
  have imp : ∀ {l m : Bool}, (!l || m) = true → l = true → m = true := by intro l m h e; subst e; simpa using h
  cases x with
  | t s len τ => cases hk
  | r n len τ τr =>
    obtain ⟨len', t, a0, h1, h2, h3⟩ := he
    have hk := hS.kept n (src_mem hx rfl) _ h1
    refine ⟨?_, hk.nodup, hk.own⟩
    have h4 : Rep (hpOf w) (Sx C.L I len') false (.ref true t) a0 [β n] (F n) := hk.root
    exact Rep.wide (Sx.up (fun _ h => h) (fun _ h => h) (imp h2)) (coe_rep (τ := .ref true τ) (t := .ref true t) (y := (a : den τ)) (by simp only [coe, boolEq]; exact h3) h4).1
  | a n len τ =>
    obtain ⟨f, len', h1, h2⟩ := he
    have hk := hS.kept n (src_mem hx rfl) _ h1
    exact ⟨⟨Rep.wide (Sx.up (fun _ h => h) (fun _ h => h) (imp h2)) hk.root.1, fun e => by cases e⟩, hk.nodup, hk.own⟩
  | m n len kt v =>
    obtain ⟨len', h1, h2⟩ := he
    have hk := hS.kept n (src_mem hx rfl) _ h1
    refine ⟨?_, hk.nodup, hk.own⟩
    obtain ⟨b, ents, clock, X', g1, g2, g3, g4, g5⟩ := hk.root
    have hw : ∀ b, Sx C.L I len' b → Sx C.L I len b ∧ hpOf w b = hpOf w b := fun b hb => ⟨Sx.up (fun _ h => h) (fun _ h => h) (imp h2) b hb, rfl⟩
    exact ⟨b, ents, clock, X', g1, g2, g3, RMz.mono_mem (fun _ _ => Rep.keep hw (fun _ _ => rfl)) (fun _ _ _ _ => Rep.keep hw (fun _ _ => rfl)) g4, g5⟩
  | o s n len τ =>
    rcases he with ⟨r, f, len', h0, h1, h2⟩ | ⟨h0, rfl⟩
    · have hsrc : LV.src σ (.o s n len τ) = some r := by simp only [LV.src, h0]
      have hk := hS.kept r (src_mem hx hsrc) _ h1
      have hv : tm.getD s undef = β r := by
        have := hS.slots s
        rw [h0] at this
        obtain ⟨_, _, _, _, _, h⟩ := this
        exact h
      have hb : LV.blk σ F (.o s n len τ) = F r := by unfold LV.blk; rw [hsrc]
      rw [hb]
      simp only [LV.val, hv]
      exact ⟨⟨Rep.wide (Sx.up (fun _ h => h) (fun _ h => h) (imp h2)) hk.root.1, fun e => by cases e⟩, hk.nodup, hk.own⟩
    · have hsrc : LV.src σ (.o s n len τ) = none := by simp only [LV.src, h0]
      have hb : LV.blk σ F (.o s n len τ) = [] := by unfold LV.blk; rw [hsrc]
      rw [hb]
      obtain ⟨a0, hv⟩ : ∃ a0, tm.getD s undef = .slice a0 0 0 := by
        have := hS.slots s
        rw [h0] at this
        exact this
      simp only [LV.val, hv]
      exact ⟨⟨⟨a0, 0, rfl, Nat.le_refl _, .inl ⟨rfl, rfl, rfl, rfl⟩⟩, fun e => by cases e⟩, by simp, by simp⟩
theorem xholes {σ : St} {xs : List LV} {xv : denL (xtys xs)} (hS : Src C I β F σ w tm xs) (hn : (xnames xs).Nodup) (hE : Exts σ xs xv) (hf : holesFit (ramN xs) xs = true) {x : LV} (hx : x ∈ xs) {k : Nat} (hk : x.nm = some k) {a : den x.ty} (he : x.Ext σ a) :
    RootH (hpOf w) (srcB β tm xs) (xroots xs xv) (x.val β tm) (x.root a) := by
  cases x with
  | t s len τ => cases hk
  | r n len τ τr =>
    obtain ⟨len', t, a0, h1, h2, h3⟩ := he
    obtain ⟨b, arr, E', fr, g1, g2, g3⟩ := hS.holes n (src_mem hx rfl) _ h1
    refine ⟨b, arr, E', fr, g1, g2, fun p hp hl => ?_⟩
    have hr := solidK_mem (holesFit_r hf hx).1 p hp
    obtain ⟨y, y1, y2, y3, y4, y5⟩ := ram_mem hr
    obtain ⟨a', e1, e2, e3⟩ := xlook_mem (β := β) (tm := tm) hn hE y1 y2
    rw [e3, y4]
    exact g3 p (coe_holes h3 p hp) (y5 σ a' e1)
  | a n len τ => trivial
  | m n len kt v => trivial
  | o s n len τ => trivial
end
end Go.Proofs.YthlpjdjipchdkaaDoor.E

