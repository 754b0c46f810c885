/- A plain evaluator of the program's form on data by value, and the proof that it is sound. No condition. -/
import Derived.Test.YtnffdeokhcojfaaEA
import Derived.Laws.Tables
import Derived.Laws.AppendOwn

namespace Go.Proofs.Ytnffdeokhcojfaa.E
open Go
set_option linter.unusedSimpArgs false
set_option linter.unusedVariables false

section
variable {C : Ctx} {I : Set'} {β : Nat → Value} {F : Nat → List Nat} {σ : St} {w : World} {tm : Array Value}

/-! fill -/

theorem setSeg_ok : ∀ (vs : List Value) (off k : Nat) (arr : Array Value), off + k + vs.length ≤ arr.size →
    ((vs.zipIdx k).foldl (fun cs p => cs.setIfInBounds (off + p.2) p.1) arr).toList = arr.toList.take (off + k) ++ vs ++ arr.toList.drop (off + k + vs.length)
  | [], off, k, arr, h => by simp
  | v :: vs, off, k, arr, h => by
    simp only [List.zipIdx_cons, List.foldl_cons]
    rw [setSeg_ok vs off (k + 1) _ (by simp at h ⊢; omega)]
    have e := list_seg_step arr.toList (off + k) v vs (by simp at h ⊢; omega)
    simpa [Array.toList_setIfInBounds, Nat.add_assoc] using e

theorem fill_cons {place : Nat → Option (Nat × Nat)} {arr : Array Value} {i off size : Nat} {v : Value} {cs : List Value} {rest : List (Nat × Value)} (hp : place i = some (off, size)) (hv : v.cells.toList = cs) (hs : cs.length = size) (hle : off + size ≤ arr.size) :
    ∃ arr', Instr.fill place arr ((i, v) :: rest) = Instr.fill place arr' rest ∧ arr'.size = arr.size ∧ arr'.toList = arr.toList.take off ++ cs ++ arr.toList.drop (off + size) := by
  have hvs : v.cells.size = size := by rw [← hs, ← hv]; simp
  refine ⟨_, by simp only [Instr.fill, hp, hvs]; rw [if_neg (by simp; omega)], ?_, ?_⟩
  · rw [← Array.foldl_toList]
    have : ∀ (l : List (Value × Nat)) (a : Array Value), (l.foldl (fun cs p => cs.setIfInBounds (off + p.2) p.1) a).size = a.size := by
      intro l
      induction l with
      | nil => intro a; rfl
      | cons x l ih => intro a; simp [ih]
    exact this _ _
  · rw [← Array.foldl_toList]
    have := setSeg_ok cs off 0 arr (by rw [hs]; omega)
    simp only [Nat.add_zero] at this
    rw [← hs, ← this]
    simp [hv]

theorem vals_ok {h : Hp} {L : Set'} {ρ : List (Nat × Root)} {u : Ty} {len : Bool} : ∀ {svs : List SV} {vs : List Value} {xs : List (den u)}, vals σ u len svs = some xs → All2 (SVR h L I β ρ) svs vs →
    ∃ css : List (List Value), RL (Rep h (Sx L I len) true u) xs css.flatten [] ∧ All2 (fun v c => v.cells.toList = c ∧ c.length = u.size) vs css ∧ css.length = svs.length ∧ xs.length = svs.length
  | [], [], xs, hv, _ => by simp [vals] at hv; subst hv; exact ⟨[], ⟨rfl, rfl⟩, trivial, rfl, rfl⟩
  | sv :: svs, v :: vs, xs, hv, ⟨h1, h2⟩ => by
    simp only [vals] at hv
    cases ht : toV len u sv with
    | none => simp [ht] at hv
    | some a =>
      cases hr : vals σ u len svs with
      | none => simp [ht, hr] at hv
      | some r =>
        simp [ht, hr] at hv
        subst hv
        obtain ⟨cs, hc, rfl⟩ := toV_ok ht h1
        obtain ⟨css, e1, e2, e3, e4⟩ := vals_ok hr h2
        exact ⟨cs :: css, ⟨cs, _, [], [], rfl, rfl, hc, e1⟩, ⟨⟨wrapV_cells hc.len hc.one, hc.len⟩, e2⟩, by simp [e3], by simp [e4]⟩
  | [], _ :: _, _, _, h => h.elim
  | _ :: _, [], _, _, h => h.elim

theorem told_ok : ∀ {k : Nat} {ps : List (Nat × SV)} {svs : List SV}, told k ps = some svs → svs = ps.map (·.2) ∧ ∀ j p, ps[j]? = some p → p.1 = k + j
  | k, [], svs, h => by simp [told] at h; subst h; simp
  | k, (i, v) :: l, svs, h => by
    simp only [told] at h
    cases hb : Nat.beq i k with
    | false => simp [hb] at h
    | true =>
      obtain rfl := Nat.eq_of_beq_eq_true hb
      simp only [hb] at h
      cases hr : told (i + 1) l with
      | none => simp [hr] at h
      | some r =>
        simp [hr] at h
        subst h
        obtain ⟨e1, e2⟩ := told_ok hr
        refine ⟨by simp [e1], ?_⟩
        intro j p hj
        cases j with
        | zero => simp at hj; subst hj; simp
        | succ j => have := e2 j p (by simpa using hj); omega

theorem fill_row {s n : Nat} (place : Nat → Option (Nat × Nat)) (hplace : ∀ i, place i = some (i * s, s)) : ∀ (ps : List (Nat × Value)) (css : List (List Value)) (k : Nat) (arr : Array Value),
    (∀ j p, ps[j]? = some p → p.1 = k + j) → All2 (fun v c => v.cells.toList = c ∧ c.length = s) (ps.map (·.2)) css → arr.size = n * s → k + ps.length ≤ n →
    ∃ arr', Instr.fill place arr ps = some arr' ∧ arr'.toList = arr.toList.take (k * s) ++ css.flatten ++ arr.toList.drop ((k + ps.length) * s)
  | [], [], k, arr, _, _, _, _ => ⟨arr, rfl, by simp⟩
  | [], _ :: _, _, _, _, h, _, _ => h.elim
  | _ :: _, [], _, _, _, h, _, _ => h.elim
  | (i, v) :: ps, c :: css, k, arr, hk, ⟨⟨h1, h2⟩, h3⟩, hsz, hn => by
    have hi : i = k := by have := hk 0 (i, v) rfl; simpa using this
    subst hi
    have hle : i * s + s ≤ n * s := by rw [← Nat.succ_mul]; exact Nat.mul_le_mul_right _ (by simp at hn; omega)
    obtain ⟨arr1, e1, e2, e3⟩ := fill_cons (rest := ps) (hplace i) h1 h2 (by rw [hsz]; exact hle)
    obtain ⟨arr2, f1, f2⟩ := fill_row place hplace ps css (i + 1) arr1 (fun j p hj => by have := hk (j + 1) p (by simpa using hj); omega) h3 (by rw [e2, hsz]) (by simp at hn; omega)
    refine ⟨arr2, by rw [e1, f1], ?_⟩
    rw [f2, e3]
    have hl : arr.toList.length = n * s := by simp [hsz]
    have e0 : (i + 1) * s = i * s + s := Nat.succ_mul i s
    have hlt : (List.take (i * s) arr.toList).length = i * s := by rw [List.length_take, hl]; omega
    have a1 : List.take ((i + 1) * s) (List.take (i * s) arr.toList ++ c ++ List.drop (i * s + s) arr.toList) = List.take (i * s) arr.toList ++ c := by
      rw [e0, List.take_append_of_le_length (by rw [List.length_append, hlt, h2]; omega), List.take_of_length_le (by rw [List.length_append, hlt, h2]; omega)]
    have a2 : List.drop ((i + 1 + ps.length) * s) (List.take (i * s) arr.toList ++ c ++ List.drop (i * s + s) arr.toList) = List.drop ((i + (ps.length + 1)) * s) arr.toList := by
      have e4 : (i + 1 + ps.length) * s = (i * s + s) + ps.length * s := by rw [Nat.add_mul, Nat.succ_mul]
      have e5 : (i + (ps.length + 1)) * s = (i * s + s) + ps.length * s := by rw [Nat.add_mul, Nat.succ_mul]; omega
      rw [e4, e5, ← List.drop_drop, List.drop_left' (by rw [List.length_append, hlt, h2]), List.drop_drop]
    rw [a1, List.length_cons, a2]
    simp

theorem opMkSl_ok (hi : Inv C I β F σ w tm) {dst : Option Nat} {t : TypeId} {u : Ty} {n : Nat} {ps : List (Nat × SV)} {vs : List (Nat × Value)} {sv : SV} {σ' : St}
    (hps : All2 (fun (p : Nat × SV) (q : Nat × Value) => q.1 = p.1 ∧ SVR (hpOf w) C.L I β σ.r p.2 q.2) ps vs) (he : opMkSl C.T dst t u n ps σ = some (true, sv, σ')) :
    After C I σ' w tm sv ((Instr.buildSlice t n vs.toArray).run C.P w) := by
  unfold opMkSl at he
  split at he
  · rename_i d e svs hu ht
    split at he
    · rename_i hz
      simp only [Bool.and_eq_true, Bool.not_eq_true'] at hz
      split at he
      · rename_i xs hv
        simp only [Option.some.injEq, Prod.mk.injEq, true_and] at he
        obtain ⟨rfl, rfl⟩ := he
        obtain ⟨rfl, hidx⟩ := told_ok ht
        have hidx : ∀ (j : Nat) (p : Nat × SV), ps[j]? = some p → p.1 = 0 + j := hidx
        have hn := Nat.eq_of_beq_eq_true hz.1.1.2
        obtain ⟨hzo, j, z, e1, e2, e3⟩ := zero_ok hz.1.2
        obtain ⟨j', f1, f2⟩ := sz_ok hz.1.1.1.1.1
        rw [e1] at f1
        obtain rfl := Option.some.inj f1
        have hlen2 : vs.length = ps.length ∧ ∀ (i : Nat) (p : Nat × Value), vs[i]? = some p → p.1 = i := by
          have : ∀ (ps : List (Nat × SV)) (vs : List (Nat × Value)) (k : Nat), All2 (fun (p : Nat × SV) (q : Nat × Value) => q.1 = p.1 ∧ SVR (hpOf w) C.L I β σ.r p.2 q.2) ps vs →
              (∀ (j : Nat) (p : Nat × SV), ps[j]? = some p → p.1 = k + j) → vs.length = ps.length ∧ ∀ (j : Nat) (p : Nat × Value), vs[j]? = some p → p.1 = k + j := by
            intro ps
            induction ps with
            | nil => intro vs k h _; cases vs with | nil => simp | cons => exact h.elim
            | cons p ps ih =>
              intro vs k h hk
              cases vs with
              | nil => exact h.elim
              | cons q vs =>
                obtain ⟨a1, a2⟩ := ih vs (k + 1) h.2 (fun j p hj => by have := hk (j + 1) p (by simpa using hj); omega)
                refine ⟨by simp [a1], ?_⟩
                intro j p' hj
                cases j with
                | zero => simp at hj; subst hj; have := hk 0 p rfl; rw [h.1.1]; exact this
                | succ j => have := a2 j p' (by simpa using hj); omega
          obtain ⟨a1, a2⟩ := this ps vs 0 hps hidx
          exact ⟨a1, fun i p h => by have := a2 i p h; omega⟩
        have hsvs : All2 (SVR (hpOf w) C.L I β σ.r) (ps.map (·.2)) (vs.map (·.2)) := by
          have : ∀ (ps : List (Nat × SV)) (vs : List (Nat × Value)), All2 (fun (p : Nat × SV) (q : Nat × Value) => q.1 = p.1 ∧ SVR (hpOf w) C.L I β σ.r p.2 q.2) ps vs → All2 (SVR (hpOf w) C.L I β σ.r) (ps.map (·.2)) (vs.map (·.2)) := by
            intro ps
            induction ps with
            | nil => intro vs h; cases vs with | nil => trivial | cons => exact h.elim
            | cons p ps ih => intro vs h; cases vs with | nil => exact h.elim | cons q vs => exact ⟨h.1.2, ih vs h.2⟩
          exact this ps vs hps
        obtain ⟨css, g1, g2, g3, g4⟩ := vals_ok hv hsvs
        have hzs : z.cells.size = u.size := by rw [← Array.length_toList, e3]; exact (Rep.dflt (h := hpOf w) (S := Sx C.L I false) hzo true).len
        simp only [List.length_map] at hn g3 g4
        have hsmall : ¬ (n * j.size > 2 ^ 24) := by
          have := Nat.le_of_ble_eq_true hz.2
          rw [f2]; omega
        obtain ⟨arr', k1, k2⟩ := fill_row (s := u.size) (n := n) (fun i => some (i * u.size, u.size)) (fun _ => rfl) vs css 0 (madeCells z.cells (n * u.size)) (fun j p h => by have := hlen2.2 j p h; omega) g2 (by simp [madeCells]) (by rw [hlen2.1]; omega)
        have hcss : css.flatten.length = n * u.size := by rw [RL.len (fun _ _ _ => Rep.len) g1, g4, hn]
        have karr : arr'.toList = css.flatten := by
          rw [k2]
          have : (madeCells z.cells (n * u.size)).toList.drop ((0 + vs.length) * u.size) = [] := by
            rw [List.drop_eq_nil_iff]; simp [madeCells, hlen2.1, hn]
          rw [this]; simp
        have hu0 : u.size ≠ 0 := by intro e; rw [e] at hz; simp at hz
        have hrun : (Instr.buildSlice t n vs.toArray).run C.P w = .ok (.slice (some ⟨w.heap.size, 0, none⟩) n n) (w.alloc (.cells arr' e)) := by
          rw [f2] at hsmall
          have hsmall : ¬ (16777216 < n * u.size) := by omega
          by_cases h0 : n = 0
          · have hvs : vs = [] := List.eq_nil_of_length_eq_zero (by omega)
            have ha : arr' = #[] := by
              apply Array.eq_empty_of_size_eq_zero
              rw [← Array.length_toList, karr, hcss, h0, Nat.zero_mul]
            subst hvs
            subst h0
            rw [ha]
            simp [Instr.buildSlice, Sem.run_bind, run_underlying (und_ok hu), run_size hz.1.1.1.1.1, newRow, Instr.fill, Array.range_zero']
          · have hf : Instr.fill (fun i => some (i * u.size, u.size)) (Array.map (fun x => z.cells[x % z.cells.size]!) (Array.range (n * u.size))) vs = some arr' := by
              rw [← k1]; rfl
            simp [Instr.buildSlice, Sem.run_bind, run_underlying (und_ok hu), run_size hz.1.1.1.1.1, h0, hu0, hf, newRow, zeroValue, typeInfo, e1, e2, hsmall]
            intro hx
            rcases Nat.mul_eq_zero.1 hx with hx | hx
            · exact (h0 hx).elim
            · exact (hu0 hx).elim
        rw [hrun]
        obtain ⟨a1, a2, a3⟩ := hp_alloc (w := w) (.cells arr' e)
        have hxs : xs.length = n := by omega
        obtain ⟨b1, b2⟩ := arr_after (d := d) (l := anyLen (ps.map (·.2))) (u := u) (cap := n) hi hz.1.1.1.2 a1 a2 a3 rfl g1 (by omega) (by rw [← Array.length_toList, karr, hcss]; exact Nat.le_refl _) (.inl rfl) (by
          rw [karr, hxs, List.take_of_length_le (by rw [hcss]; exact Nat.le_refl _)])
        rw [hxs] at b1 b2
        exact ⟨_, _, I, _, _, rfl, b1, b2, fun _ h => h, by simp⟩
      · simp at he
    · simp at he
  · simp at he

end

end Go.Proofs.Ytnffdeokhcojfaa.E

namespace Go.Proofs.Ytnffdeokhcojfaa.E
open Go
set_option linter.unusedSimpArgs false
set_option linter.unusedVariables false

section
variable {C : Ctx} {β : Nat → Value} {F : Nat → List Nat} {w : World} {tm : Array Value}

def evT (tm : Array Value) (x : Operand) : Value := Act.eval ⟨tm, []⟩ x

def Gok (tm : Array Value) (g : Option (Nat × Bool)) : Prop := ∀ d w, g = some (d, w) → tm.getD d undef = .bool w

theorem svConst_ok {h : Hp} {L I : Set'} {ρ : List (Nat × Root)} (c : Value) : SVR h L I β ρ (svConst c) c := by
  unfold svConst
  split
  · exact svr_bool
  · exact svr_int
  · rename_i s; obtain ⟨⟨l⟩⟩ := s; exact svr_str
  · exact ⟨none, rfl⟩
  · exact rfl
  · trivial

theorem findC_mem : ∀ {l : List (Nat × Nat × Bool × SV)} {n d : Nat} {u : Bool}, findC l n d u = .x ∨ (n, d, u, findC l n d u) ∈ l
  | [], _, _, _ => .inl rfl
  | (k, e, w, v) :: l, n, d, u => by
    simp only [findC]
    cases hb : (Nat.beq k n && Nat.beq e d && boolEq w u) with
    | true =>
      simp only [Bool.and_eq_true] at hb
      obtain rfl := Nat.eq_of_beq_eq_true hb.1.1
      obtain rfl := Nat.eq_of_beq_eq_true hb.1.2
      obtain rfl := boolEq_iff hb.2
      right; simp
    | false =>
      rcases findC_mem (l := l) (n := n) (d := d) (u := u) with h | h
      · exact .inl h
      · right; simp only [List.mem_cons]; exact .inr h

theorem at_ok {I : Set'} {σ : St} (hi : Inv C I β F σ w tm) {g : Option (Nat × Bool)} (hg : Gok tm g) (i : Nat) : SVR (hpOf w) C.L I β σ.r (σ.at g i) (tm.getD i undef) := by
  have h := hi.slots i
  unfold St.at
  split
  · split
    · rename_i d u
      rcases findC_mem (l := σ.c) (n := i) (d := d) (u := u) with h | h
      · rw [h]; trivial
      · exact hi.conds _ _ _ _ h (hg d u rfl)
    · trivial
  · exact h

theorem arg_ok {I : Set'} {σ : St} (hi : Inv C I β F σ w tm) {g : Option (Nat × Bool)} (hg : Gok tm g) (x : Operand) : SVR (hpOf w) C.L I β σ.r (σ.arg g x) (evT tm x) := by
  cases x with
  | tmp i => exact at_ok hi hg i
  | const c => exact svConst_ok c
  | global _ => trivial
  | func _ => trivial

/-! a struct out of its fields -/

theorem toV_free {len : Bool} {τ : Ty} {sv : SV} {a : den τ} (h : toV len τ sv = some a) (r : Nat) : sv.uses r = false := by
  cases sv <;> first | rfl | (simp [toV] at h)

theorem sharedL_ok {g : Option (Nat × Bool)} (hg : Gok tm g) : ∀ (ps : List (Nat × Operand)) {I : Set'} {σ σ' : St} {qs : List (Nat × SV)}, Inv C I β F σ w tm → sharedL g σ ps = (qs, σ') →
    ∃ I', Inv C I' β F σ' w tm ∧ (∀ b, I b → I' b) ∧
      All2 (fun (p : Nat × SV) (q : Nat × Value) => q.1 = p.1 ∧ (∀ len τ a, toV len τ p.2 = some a → SVR (hpOf w) C.L I' β σ'.r p.2 q.2)) qs (ps.map fun p => (p.1, evT tm p.2))
  | [], I, σ, σ', qs, hi, he => by
    simp [sharedL] at he
    obtain ⟨rfl, rfl⟩ := he
    exact ⟨I, hi, fun _ h => h, trivial⟩
  | (i, x) :: ps, I, σ, σ', qs, hi, he => by
    simp only [sharedL] at he
    cases hs : sharedV σ (σ.arg g x) with
    | mk v' σ1 =>
      simp only [hs] at he
      cases hl : sharedL g σ1 ps with
      | mk l σ2 =>
        simp only [hl, Prod.mk.injEq] at he
        obtain ⟨rfl, rfl⟩ := he
        obtain ⟨I1, hi1, hv1, hI1, hn1, hk1⟩ := shared_ok hi (arg_ok hi hg x) hs
        obtain ⟨I2, hi2, hI2, ha⟩ := sharedL_ok hg ps hi1 hl
        refine ⟨I2, hi2, fun b hb => hI2 b (hI1 b hb), ⟨rfl, ?_⟩, ha⟩
        intro len τ a ht
        refine SVR.mono (fun b hb => ⟨hI2 b hb, rfl⟩) (fun _ _ => rfl) ?_ hv1
        intro r R hu
        rw [toV_free ht r] at hu
        cases hu

theorem fillF_ok {h : Hp} {L I : Set'} {ρ : List (Nat × Root)} {len : Bool} {fs : List Field} (hall : ∀ (i : Nat) (f : Field), fs[i]? = some f → True) (place : Nat → Option (Nat × Nat)) :
    ∀ (τ : Ty) (k o : Nat) (qs : List (Nat × SV)) (vs : List (Nat × Value)) (x : den τ) (arr : Array Value), fillF len τ k qs = some x →
      All2 (fun (p : Nat × SV) (q : Nat × Value) => q.1 = p.1 ∧ (∀ len τ a, toV len τ p.2 = some a → SVR h L I β ρ p.2 q.2)) qs vs → zOk τ = true →
      (∀ j a o', fldOff τ j = some (o', a) → place (k + j) = some (o + o', a.size)) → o + τ.size ≤ arr.size → (arr.toList.drop o).take τ.size = zeroC τ →
      ∃ arr' cs, Instr.fill place arr vs = some arr' ∧ arr'.size = arr.size ∧ arr'.toList = arr.toList.take o ++ cs ++ arr.toList.drop (o + τ.size) ∧ Rep h (Sx L I len) true τ x cs []
  | .unit, k, o, [], [], x, arr, hf, _, _, _, _, _ => by
    refine ⟨arr, [], rfl, rfl, by simp [Ty.size], ⟨rfl, rfl⟩⟩
  | .unit, k, o, [], _ :: _, x, arr, hf, h, _, _, _, _ => h.elim
  | .unit, k, o, _ :: _, _, x, arr, hf, _, _, _, _, _ => by simp [fillF] at hf
  | .pair a b, k, o, qs, vs, x, arr, hf, ha, hz, hp, hsz, hzero => by
    simp only [zOk, Bool.and_eq_true] at hz
    have hp0 : place k = some (o, a.size) := by have := hp 0 a 0 rfl; simpa using this
    have hp1 : ∀ j c o', fldOff b j = some (o', c) → place (k + 1 + j) = some (o + a.size + o', c.size) := by
      intro j c o' hj
      have := hp (j + 1) c (a.size + o') (by simp [fldOff, hj])
      rw [show k + 1 + j = k + (j + 1) by omega, this, Nat.add_assoc]
    have hlA : (zeroC a).length = a.size := (Rep.dflt (h := h) (S := Sx L I false) hz.1 true).len
    have hlB : (zeroC b).length = b.size := (Rep.dflt (h := h) (S := Sx L I false) hz.2 true).len
    have hsz' : o + a.size + b.size ≤ arr.size := by simp only [Ty.size] at hsz; omega
    have hL : arr.toList.length = arr.size := by simp
    have hzA : (arr.toList.drop o).take a.size = zeroC a := by
      have e : (arr.toList.drop o).take a.size = ((arr.toList.drop o).take (Ty.pair a b).size).take a.size := by
        rw [List.take_take]; congr 1; simp only [Ty.size]; omega
      rw [e, hzero, zeroC, List.take_left' hlA]
    have hzB : (arr.toList.drop (o + a.size)).take b.size = zeroC b := by
      have e : (arr.toList.drop (o + a.size)).take b.size = ((arr.toList.drop o).take (Ty.pair a b).size).drop a.size := by
        rw [List.drop_take, List.drop_drop]; congr 1; simp only [Ty.size]; omega
      rw [e, hzero, zeroC, List.drop_left' hlA]
    -- the field is left as it was
    have hskip : ∀ (r : den b), fillF len b (k + 1) qs = some r → x = (dflt a, r) → ∃ arr' cs, Instr.fill place arr vs = some arr' ∧ arr'.size = arr.size ∧ arr'.toList = arr.toList.take o ++ cs ++ arr.toList.drop (o + (Ty.pair a b).size) ∧ Rep h (Sx L I len) true (.pair a b) x cs [] := by
      rintro r hr rfl
      obtain ⟨arr', cs, e1, e2, e3, e4⟩ := fillF_ok hall place b (k + 1) (o + a.size) qs vs r arr hr ha hz.2 hp1 hsz' hzB
      refine ⟨arr', zeroC a ++ cs, e1, e2, ?_, ⟨zeroC a, cs, [], [], rfl, rfl, Rep.dflt hz.1 true, e4⟩⟩
      rw [e3, List.take_add, hzA]
      simp [Ty.size, Nat.add_assoc]
    cases qs with
    | nil =>
      simp only [fillF] at hf
      cases hr : fillF len b (k + 1) [] with
      | none => simp [hr] at hf
      | some r => simp [hr] at hf; exact hskip r hr hf.symm
    | cons q qs =>
      obtain ⟨i, v⟩ := q
      simp only [fillF] at hf
      cases hb : Nat.beq i k with
      | false =>
        simp only [hb] at hf
        cases hr : fillF len b (k + 1) ((i, v) :: qs) with
        | none => simp [hr] at hf
        | some r => simp [hr] at hf; exact hskip r hr hf.symm
      | true =>
        obtain rfl := Nat.eq_of_beq_eq_true hb
        simp only [hb] at hf
        cases ht : toV len a v with
        | none => simp [ht] at hf
        | some y =>
          cases hr : fillF len b (i + 1) qs with
          | none => simp [ht, hr] at hf
          | some r =>
            simp [ht, hr] at hf
            subst hf
            cases vs with
            | nil => exact ha.elim
            | cons q' vs =>
              obtain ⟨j, u⟩ := q'
              obtain ⟨⟨h1, h2⟩, h3⟩ := ha
              simp only at h1
              subst h1
              obtain ⟨cs, hc, hu⟩ := toV_ok ht (h2 len a y ht)
              simp only at hu
              have hcl := hc.len
              have hcells : u.cells.toList = cs := by rw [hu]; exact wrapV_cells hc.len hc.one
              obtain ⟨arr1, e1, e2, e3⟩ := fill_cons (v := u) (rest := vs) hp0 hcells hcl (by omega : o + a.size ≤ arr.size)
              have hlt : (List.take o arr.toList).length = o := by rw [List.length_take, hL]; omega
              have hdrop : List.drop (o + a.size) arr1.toList = List.drop (o + a.size) arr.toList := by
                rw [e3, List.drop_left' (by rw [List.length_append, hlt, hcl])]
              obtain ⟨arr2, ds, f1, f2, f3, f4⟩ := fillF_ok hall place b (j + 1) (o + a.size) qs vs r arr1 hr h3 hz.2 hp1 (by rw [e2]; exact hsz') (by rw [hdrop]; exact hzB)
              refine ⟨arr2, cs ++ ds, by rw [e1]; exact f1, by rw [f2, e2], ?_, ⟨cs, ds, [], [], rfl, rfl, hc, f4⟩⟩
              have htake : List.take (o + a.size) arr1.toList = List.take o arr.toList ++ cs := by
                rw [e3, List.take_left' (by rw [List.length_append, hlt, hcl])]
              have hd2 : List.drop (o + a.size + b.size) arr1.toList = List.drop (o + a.size + b.size) arr.toList := by
                rw [← List.drop_drop, hdrop, List.drop_drop]
              rw [f3, htake, hd2]
              simp [Ty.size, Nat.add_assoc]
  | .int _, _, _, _, _, _, _, hf, _, _, _, _, _ | .bool, _, _, _, _, _, _, hf, _, _, _, _, _ | .str, _, _, _, _, _, _, hf, _, _, _, _, _ | .arr _ _, _, _, _, _, _, _, hf, _, _, _, _, _
  | .sl _ _, _, _, _, _, _, _, hf, _, _, _, _, _ | .ptr _ _, _, _, _, _, _, _, hf, _, _, _, _, _ | .ref _ _, _, _, _, _, _, _, hf, _, _, _, _, _ | .map _ _ _, _, _, _, _, _, _, hf, _, _, _, _, _ => by simp [fillF] at hf

theorem lie_ok : ∀ (τ : Ty) (fs : List Field) (o : Nat), lie C.T τ fs o = true → ∀ j a o', fldOff τ j = some (o', a) → ∃ f, fs[j]? = some f ∧ f.offset = o + o' ∧ szB C.T f.type a.size = true
  | .unit, [], o, _, j, a, o', h => by simp [fldOff] at h
  | .unit, _ :: _, o, h, _, _, _, _ => by simp [lie] at h
  | .pair a b, [], o, h, _, _, _, _ => by simp [lie] at h
  | .pair a b, f :: fs, o, h, j, c, o', hj => by
    simp only [lie, Bool.and_eq_true] at h
    cases j with
    | zero =>
      simp [fldOff] at hj
      obtain ⟨rfl, rfl⟩ := hj
      exact ⟨f, rfl, Nat.eq_of_beq_eq_true h.1.1, h.1.2⟩
    | succ j =>
      simp only [fldOff] at hj
      cases hq : fldOff b j with
      | none => simp [hq] at hj
      | some q =>
        simp [hq] at hj
        obtain ⟨rfl, rfl⟩ := hj
        obtain ⟨f', e1, e2, e3⟩ := lie_ok b fs (o + a.size) h.2 j q.2 q.1 hq
        exact ⟨f', by simpa using e1, by omega, e3⟩
  | .int _, _, _, h, _, _, _, _ | .bool, _, _, h, _, _, _, _ | .str, _, _, h, _, _, _, _ | .arr _ _, _, _, h, _, _, _, _ | .sl _ _, _, _, h, _, _, _, _ | .ptr _ _, _, _, h, _, _, _, _ | .ref _ _, _, _, h, _, _, _, _ | .map _ _ _, _, _, h, _, _, _, _ => by simp [lie] at h

theorem lie_all : ∀ (τ : Ty) (fs : List Field) (o : Nat), lie C.T τ fs o = true → ∀ f ∈ fs, ∃ n, szB C.T f.type n = true
  | .unit, [], o, _, f, h => by simp at h
  | .unit, _ :: _, o, h, _, _ => by simp [lie] at h
  | .pair a b, [], o, h, _, _ => by simp [lie] at h
  | .pair a b, f :: fs, o, h, f', hm => by
    simp only [lie, Bool.and_eq_true] at h
    rcases List.mem_cons.1 hm with rfl | hm
    · exact ⟨a.size, h.1.2⟩
    · exact lie_all b fs (o + a.size) h.2 f' hm
  | .int _, _, _, h, _, _ | .bool, _, _, h, _, _ | .str, _, _, h, _, _ | .arr _ _, _, _, h, _, _ | .sl _ _, _, _, h, _, _ | .ptr _ _, _, _, h, _, _ | .ref _ _, _, _, h, _, _ | .map _ _ _, _, _, h, _, _ => by simp [lie] at h

end

end Go.Proofs.Ytnffdeokhcojfaa.E

namespace Go.Proofs.Ytnffdeokhcojfaa.E
open Go
set_option linter.unusedSimpArgs false
set_option linter.unusedVariables false

section
variable {C : Ctx} {β : Nat → Value} {F : Nat → List Nat} {w : World} {tm : Array Value}

theorem places_ok : ∀ (fs : List Field), (∀ f ∈ fs, ∃ n, szB C.T f.type n = true) → ∃ pl : List (Nat × Nat), fs.mapM (fun f => (C.P.info? f.type).map fun i => (f.offset, i.size)) = some pl ∧
    ∀ (j : Nat) (f : Field) (n : Nat), fs[j]? = some f → szB C.T f.type n = true → pl[j]? = some (f.offset, n)
  | [], _ => ⟨[], rfl, fun j f n h => by simp at h⟩
  | f :: fs, h => by
    obtain ⟨n, hn⟩ := h f (by simp)
    obtain ⟨i, e1, e2⟩ := sz_ok hn
    obtain ⟨pl, p1, p2⟩ := places_ok fs (fun g hg => h g (by simp [hg]))
    refine ⟨(f.offset, i.size) :: pl, by simp [List.mapM_cons, e1, p1], ?_⟩
    intro j g m hj hm
    cases j with
    | zero =>
      simp at hj
      subst hj
      obtain ⟨i', f1, f2⟩ := sz_ok hm
      rw [e1] at f1
      obtain rfl := Option.some.inj f1
      simp [f2]
    | succ j => simpa using p2 j g m (by simpa using hj) hm

theorem opBuild_ok {I : Set'} {σ σ' : St} (hi : Inv C I β F σ w tm) {g : Option (Nat × Bool)} (hg : Gok tm g) {t : TypeId} {τ : Ty} {ps : List (Nat × Operand)} {sv : SV} (he : opBuild C.T t τ g ps σ = some (true, sv, σ')) :
    After C I σ' w tm sv ((Instr.build t (ps.map fun p => (p.1, evT tm p.2)).toArray).run C.P w) := by
  unfold opBuild at he
  split at he
  · rename_i fs hu
    split at he
    · rename_i hz
      simp only [Bool.and_eq_true] at hz
      cases hs : sharedL g σ ps with
      | mk qs σ1 =>
        simp only [hs] at he
        cases hf : fillF (anyLenP qs) τ 0 qs with
        | none => simp [hf] at he
        | some x =>
          simp only [hf, Option.some.injEq, Prod.mk.injEq, true_and] at he
          obtain ⟨rfl, rfl⟩ := he
          obtain ⟨I', hi1, hI, ha⟩ := sharedL_ok hg ps hi hs
          obtain ⟨hzo, j, z, e1, e2, e3⟩ := zero_ok hz.1.1.1
          have hfo := lie_ok (C := C) τ fs.toList 0 hz.2
          obtain ⟨pl, p1, p2⟩ := places_ok (C := C) fs.toList (lie_all τ fs.toList 0 hz.2)
          have hzl : (zeroC τ).length = τ.size := (Rep.dflt (h := hpOf w) (S := Sx C.L I' false) hzo true).len
          have hzs : z.cells.size = τ.size := by rw [← Array.length_toList, e3, hzl]
          obtain ⟨arr', cs, f1, f2, f3, f4⟩ := fillF_ok (h := hpOf w) (L := C.L) (I := I') (β := β) (ρ := σ1.r) (fs := []) (fun _ _ _ => trivial) (pl[·]?) τ 0 0 qs _ x z.cells hf ha hzo
            (fun j a o' hj => by
              obtain ⟨f, g1, g2, g3⟩ := hfo j a o' hj
              have := p2 j f a.size g1 g3
              simp only [Nat.zero_add, this]
              rw [g2, Nat.zero_add]) (by rw [hzs]; omega) (by rw [e3, List.drop_zero, List.take_of_length_le (by rw [hzl]; exact Nat.le_refl _)])
          have hcs : arr'.toList = cs := by
            rw [f3]
            have : List.drop (0 + τ.size) z.cells.toList = [] := by rw [List.drop_eq_nil_iff, e3, hzl]; omega
            rw [this]; simp
          have hrun : (Instr.build t (ps.map fun p => (p.1, evT tm p.2)).toArray).run C.P w = .ok (.agg arr') w := by
            simp [Instr.build, run_underlying (und_ok hu), typeInfo, zeroValue, e1, e2, Array.mapM_eq_mapM_toList, run_places w _ _ p1, f1]
          rw [hrun]
          refine ⟨_, w, I', β, F, rfl, hi1, ⟨cs, f4, ?_⟩, hI, Nat.le_refl _⟩
          rw [wrapV, if_pos hz.1.2, ← hcs]
    · simp at he
  · simp at he

theorem svr_mono_I {h : Hp} {L I I' : Set'} {ρ : List (Nat × Root)} {sv : SV} {v : Value} (hI : ∀ b, I b → I' b) (hs : SVR h L I β ρ sv v) (hr : ∀ r R, sv.uses r = true → look ρ r = some R → look ρ r = some R) : SVR h L I' β ρ sv v := by
  refine SVR.mono (fun b hb => ⟨hI b hb, rfl⟩) (fun _ _ => rfl) ?_ hs
  intro r R hu hl
  exact ⟨R, hl, Root.like.refl R, rfl⟩

end
end Go.Proofs.Ytnffdeokhcojfaa.E

namespace Go.Proofs.Ytnffdeokhcojfaa.E
open Go
set_option linter.unusedSimpArgs false
set_option linter.unusedVariables false

/-- a run of elements, as the machine reads it -/
def ElR (h : Hp) (S : Set') (u : Ty) (ys : List (den u)) (cs : List Value) (v : Value) : Prop :=
  RL (Rep h S true u) ys cs [] ∧ ((∃ s : List UInt8, v = .string ⟨⟨s⟩⟩ ∧ u.size = 1 ∧ s.length = ys.length ∧ cs = s.map fun c => Value.int .u8 (c.toNat : Int)) ∨
    ∃ a c, v = .slice a ys.length c ∧ ys.length ≤ c ∧ ((ys = [] ∧ a = a ∧ c = 0) ∨ ∃ b o arr E fr, a = some ⟨b, o, none⟩ ∧ h b = some (.cells arr E fr) ∧ o + c * u.size ≤ arr.size ∧ cs = (arr.toList.drop o).take (ys.length * u.size)))

theorem rep_str_bytes {h : Hp} {S : Set'} : ∀ s : List UInt8, RL (Rep h S true (.int .u8)) (s.map fun c => (c.toNat : Int)) (s.map fun c => Value.int .u8 (c.toNat : Int)) []
  | [] => ⟨rfl, rfl⟩
  | c :: s => ⟨[_], _, [], [], rfl, rfl, ⟨rfl, rfl⟩, rep_str_bytes s⟩

theorem ElR.of_rep {h : Hp} {S : Set'} {o : Bool} {u : Ty} {xs : List (den u)} {v : Value} (hr : Rep h S true (.sl o u) xs [v] []) : ∃ cs, ElR h S u xs cs v := by
  obtain ⟨a, c, e1, e2, e3⟩ := hr
  simp only [List.cons.injEq, and_true] at e1
  rcases e3 with ⟨g1, g2, g3, _⟩ | ⟨b, of, arr, E', fr, X', g1, g2, g3, g4, g5⟩
  · subst g1
    exact ⟨[], ⟨rfl, rfl⟩, .inr ⟨a, c, e1, e2, .inl ⟨rfl, g2, g3⟩⟩⟩
  · simp only [Bool.not_true, Bool.and_false, Bool.false_eq_true, if_false] at g5
    obtain ⟨_, _, rfl⟩ := g5
    exact ⟨_, g4, .inr ⟨a, c, e1, e2, .inr ⟨b, of, arr, E', fr, g1, g2, g3, rfl⟩⟩⟩

/-- an own array's elements -/
theorem ElR.of_root {h : Hp} {L I : Set'} {β : Value} {l : Bool} {u : Ty} {xs : List (den u)} {X : List Nat} (hr : RootR h L I β (.arr l u xs) X) (hf : u.flat = true) :
    ∃ a c cs, β = .slice a xs.length c ∧ xs.length ≤ c ∧ RL (Rep h (Sx L I l) true u) xs cs [] ∧
      ((xs = [] ∧ a = a ∧ c = 0 ∧ cs = [] ∧ X = []) ∨ ∃ b o arr E fr, a = some ⟨b, o, none⟩ ∧ h b = some (.cells arr E fr) ∧ o + c * u.size ≤ arr.size ∧ cs = (arr.toList.drop o).take (xs.length * u.size) ∧ X = [b] ∧ calm arr.size fr) := by
  obtain ⟨a, c, e1, e2, e3⟩ := hr
  simp only [List.cons.injEq, and_true] at e1
  rcases e3 with ⟨g1, g2, g3, g4⟩ | ⟨b, of, arr, E', fr, X', g1, g2, g3, g4, g5⟩
  · subst g1
    exact ⟨a, c, [], e1, e2, ⟨rfl, rfl⟩, .inl ⟨rfl, g2, g3, rfl, g4⟩⟩
  · simp only [Bool.and_true, if_true, Bool.not_false] at g5
    have h1 : RL (Rep h (Sx L I l) true u) xs ((arr.toList.drop of).take (xs.length * u.size)) X' :=
      RL.mono_mem (fun x c Y _ hY hr => by obtain ⟨e, r⟩ := Rep.flat (t := u) hf hr; rw [e]; exact r) g4
    have h2 := RL.nilX (fun _ _ _ => Rep.lentX) h1
    have hX := RL.noX (fun _ _ _ => Rep.lentX) h1
    exact ⟨a, c, _, e1, e2, h2, .inr ⟨b, of, arr, E', fr, g1, g2, g3, rfl, by rw [g5.1, hX], g5.2⟩⟩

section
variable {C : Ctx} {I : Set'} {β : Nat → Value} {F : Nat → List Nat} {σ : St} {w : World} {tm : Array Value}

theorem run_lenOf {h : Hp} {S : Set'} {u : Ty} {ys : List (den u)} {cs : List Value} {v : Value} (he : ElR h S u ys cs v) : (Builtin.lenOf v).run C.P w = .ok ys.length w := by
  rcases he.2 with ⟨s, rfl, _, hl, _⟩ | ⟨a, c, rfl, _⟩
  · simp [Builtin.lenOf, ByteArray.size, hl]
  · rfl

theorem run_first {S : Set'} {u : Ty} {ys : List (den u)} {cs : List Value} {v : Value} (he : ElR (hpOf w) S u ys cs v) {w' : World} (hw : w'.heap = w.heap) (k : Nat) (hk : k ≤ ys.length) :
    (Builtin.firstCells u.size k v).run C.P w' = .ok (cs.take (k * u.size)).toArray w' := by
  have hle : k * u.size ≤ ys.length * u.size := Nat.mul_le_mul_right _ hk
  rcases he.2 with ⟨s, rfl, h1, hl, rfl⟩ | ⟨a, c, rfl, hc, ⟨rfl, _, rfl⟩ | ⟨b, o, arr, E', fr, rfl, hb, ho, rfl⟩⟩
  · simp only [Builtin.firstCells, ba_extract, h1, Nat.mul_one, Sem.run_pure]
    congr 1
    apply Array.toList_inj.1
    simp [List.map_take]
  · obtain ⟨rfl, _⟩ := he.1
    simp at hk
    subst hk
    cases a with
    | none => simp [Builtin.firstCells]
    | some a => simp [Builtin.firstCells, loadCells, loadCellsFrom]
  · have hle2 : ys.length * u.size ≤ c * u.size := Nat.mul_le_mul_right _ hc
    have hb' : hpOf w' b = some (.cells arr E' fr) := by simp only [hpOf] at hb ⊢; rw [hw]; exact hb
    simp only [Builtin.firstCells]
    rw [run_cells (n := k * u.size) hb' (by omega), List.take_take]
    congr 3
    omega

theorem elems_ok (hi : Inv C I β F σ w tm) {u : Ty} {sv : SV} {v : Value} {l : Bool} {ys : List (den u)} (hs : SVR (hpOf w) C.L I β σ.r sv v) (hf : u.flat = true) (he : elems σ u sv = some (l, ys)) :
    ∃ cs, RL (Rep (hpOf w) (Sx C.L I l) true u) ys cs [] ∧ ∃ S, ElR (hpOf w) S u ys cs v ∧
      (∀ r, sv.root = some r → ∃ a c, v = .slice a ys.length c ∧ ys.length ≤ c ∧ ((ys = [] ∧ a = a ∧ c = 0) ∨ ∃ b o arr E fr, a = some ⟨b, o, none⟩ ∧ hpOf w b = some (.cells arr E fr) ∧ o + c * u.size ≤ arr.size ∧ cs = (arr.toList.drop o).take (ys.length * u.size) ∧
        F r = [b] ∧ calm arr.size fr)) := by
  cases sv with
  | v len t xs =>
    cases t with
    | sl o t =>
      simp only [elems] at he
      cases hc : cast? (t := .sl false t) (.sl false u) xs with
      | none => simp [hc] at he
      | some zs =>
        simp [hc] at he
        obtain ⟨rfl, rfl⟩ := he
        obtain ⟨h1, h2⟩ := cast?_some hc
        simp only [Ty.sl.injEq, true_and] at h1
        subst h1
        have := eq_of_heq h2
        subst this
        obtain ⟨c1, hr, rfl⟩ := hs
        obtain ⟨v0, rfl⟩ : ∃ v0, c1 = [v0] := by have := hr.len; simp [Ty.size] at this; exact List.length_eq_one_iff.1 this
        obtain ⟨cs, hel⟩ := ElR.of_rep hr
        refine ⟨cs, hel.1, _, by simpa [wrapV, Ty.isAgg] using hel, by simp [SV.root]⟩
    | str =>
      simp only [elems] at he
      cases hc : cast? (t := .sl false (.int .u8)) (.sl false u) (List.map (fun c : UInt8 => (c.toNat : Int)) xs) with
      | none => simp [hc] at he
      | some zs =>
        simp [hc] at he
        obtain ⟨rfl, rfl⟩ := he
        obtain ⟨h1, h2⟩ := cast?_some hc
        simp only [Ty.sl.injEq, true_and] at h1
        subst h1
        have := eq_of_heq h2
        subst this
        obtain rfl := of_str hs
        exact ⟨_, rep_str_bytes xs, Sx C.L I false, ⟨rep_str_bytes xs, .inl ⟨xs, rfl, rfl, by simp, rfl⟩⟩, by simp [SV.root]⟩
    | _ => simp [elems] at he
  | nl =>
    simp [elems] at he
    obtain ⟨rfl, rfl⟩ := he
    obtain ⟨a0, rfl⟩ : ∃ a0, v = .slice a0 0 0 := hs
    exact ⟨[], ⟨rfl, rfl⟩, Sx C.L I false, ⟨⟨rfl, rfl⟩, .inr ⟨a0, 0, rfl, Nat.le_refl _, .inl ⟨rfl, rfl, rfl⟩⟩⟩, by simp [SV.root]⟩
  | sf r =>
    simp only [elems] at he
    obtain ⟨l', t, xs, hl, rfl⟩ := hs
    simp only [hl] at he
    cases hc : cast? (t := .sl false t) (.sl false u) xs with
    | none => simp [hc] at he
    | some zs =>
      simp [hc] at he
      obtain ⟨rfl, rfl⟩ := he
      obtain ⟨h1, h2⟩ := cast?_some hc
      simp only [Ty.sl.injEq, true_and] at h1
      subst h1
      have := eq_of_heq h2
      subst this
      obtain ⟨a, c, cs, e1, e2, e3, e4⟩ := ElR.of_root (hi.roots r _ hl) hf
      refine ⟨cs, e3, Sx C.L I l', ⟨e3, .inr ⟨a, c, e1, e2, ?_⟩⟩, ?_⟩
      · rcases e4 with ⟨g1, g2, g3, g4, _⟩ | ⟨b, o, arr, E', fr, g1, g2, g3, g4, g5, g6⟩
        · exact .inl ⟨g1, g2, g3⟩
        · exact .inr ⟨b, o, arr, E', fr, g1, g2, g3, g4⟩
      · intro r' hr'
        simp [SV.root] at hr'
        subst hr'
        refine ⟨a, c, e1, e2, ?_⟩
        rcases e4 with ⟨g1, g2, g3, g4, _⟩ | ⟨b, o, arr, E', fr, g1, g2, g3, g4, g5, g6⟩
        · exact .inl ⟨g1, g2, g3⟩
        · exact .inr ⟨b, o, arr, E', fr, g1, g2, g3, g4, g5, g6⟩
  | s r lo n =>
    simp only [elems] at he
    obtain ⟨l', t, xs, hl, hn, hsub⟩ := hs
    simp only [hl] at he
    cases hc : cast? (t := .sl false t) (.sl false u) xs with
    | none => simp [hc] at he
    | some zs =>
      simp [hc] at he
      obtain ⟨rfl, rfl⟩ := he
      obtain ⟨h1, h2⟩ := cast?_some hc
      simp only [Ty.sl.injEq, true_and] at h1
      subst h1
      have := eq_of_heq h2
      subst this
      obtain ⟨a, c, cs, e1, e2, e3, e4⟩ := ElR.of_root (hi.roots r _ hl) hf
      obtain ⟨a0, m, c0, a', c', f1, f2, f3, f4, f5⟩ := hsub
      rw [f1] at e1
      simp only [Value.slice.injEq] at e1
      obtain ⟨rfl, rfl, rfl⟩ := e1
      have hlen : ((xs.drop lo).take n).length = n := by simp; omega
      obtain ⟨Y, hY, d1⟩ := RL.drop (fun _ _ _ => Rep.len) lo e3
      obtain ⟨Z, hZ, d2⟩ := RL.take (fun _ _ _ => Rep.len) n d1
      have d2 := RL.nilX (fun _ _ _ => Rep.lentX) d2
      have key : ((xs.drop lo).take n = [] ∧ a' = a' ∧ c' = 0) ∨ ∃ b o arr E fr, a' = some ⟨b, o, none⟩ ∧ hpOf w b = some (.cells arr E fr) ∧ o + c' * t.size ≤ arr.size ∧
          List.take (n * t.size) (List.drop (lo * t.size) cs) = (arr.toList.drop o).take (((xs.drop lo).take n).length * t.size) ∧ F r = [b] ∧ calm arr.size fr := by
        rcases e4 with ⟨g1, g2, g3, g4, _⟩ | ⟨b, o, arr, E', fr, g1, g2, g3, g4, g5, g6⟩
        · subst g1
          simp at hn
          exact .inl ⟨by simp, rfl, by omega⟩
        · rcases f5 with ⟨_, _, f5⟩ | ⟨b', o', k, f5, f6, f7, f8⟩
          · refine .inl ⟨?_, rfl, f5⟩
            have : n = 0 := by omega
            subst this; simp
          · rw [g1] at f5
            simp only [Option.some.injEq, Addr.mk.injEq, and_true] at f5
            obtain ⟨rfl, rfl⟩ := f5
            have hle : k * t.size + c' * t.size ≤ c0 * t.size := by rw [← Nat.add_mul]; exact Nat.mul_le_mul_right _ f7
            refine .inr ⟨b, o + k * t.size, arr, E', fr, f6, g2, by omega, ?_, g5, g6⟩
            rw [hlen]
            rcases f8 with f8 | f8
            · have : n = 0 := by omega
              subst this
              simp
            subst f8
            have : n * t.size + k * t.size ≤ xs.length * t.size := by rw [← Nat.add_mul]; exact Nat.mul_le_mul_right _ (by omega)
            rw [g4, List.drop_take, List.take_take, List.drop_drop]
            congr 1; omega
      refine ⟨_, d2, Sx C.L I l', ⟨d2, .inr ⟨a', c', by rw [hlen]; exact f2, by rw [hlen]; exact f3, ?_⟩⟩, ?_⟩
      · rcases key with k | ⟨b, o, arr, E', fr, k1, k2, k3, k4, _⟩
        · exact .inl k
        · exact .inr ⟨b, o, arr, E', fr, k1, k2, k3, k4⟩
      · intro r' hr'
        simp [SV.root] at hr'
        subst hr'
        exact ⟨a', c', by rw [hlen]; exact f2, by rw [hlen]; exact f3, key⟩
  | _ => simp [elems] at he

end
end Go.Proofs.Ytnffdeokhcojfaa.E

namespace Go.Proofs.Ytnffdeokhcojfaa.E
open Go
set_option linter.unusedSimpArgs false
set_option linter.unusedVariables false

section
variable {C : Ctx} {I : Set'} {β : Nat → Value} {F : Nat → List Nat} {σ : St} {w : World} {tm : Array Value}

theorem run_app_room {t t2 ty e : TypeId} {k2 : TypeDesc} {n : Nat} (hu : C.P.underlying t = some (.slice e)) (hu2 : C.P.underlying t2 = some k2) (hk : k2 = .string ∨ ∃ e', k2 = .slice e') (hs : szB C.T e n = true)
    {a : Option Addr} {sLen sCap m : Nat} {x : Value} {news : List Value} (hl : (Builtin.lenOf x).run C.P w = .ok m w) (hf : (Builtin.firstCells n m x).run C.P w = .ok news.toArray w) (hroom : sLen + m ≤ sCap) :
    (Builtin.append_ #[t, t2] ty #[.slice a sLen sCap, x]).run C.P w =
      Result.andThen ((match a with | some a => (storeCells (a.add (sLen * n)) news) | none => (pure () : Sem Unit)).run C.P w) fun _ w => .ok (.slice a (sLen + m) sCap) w := by
  rcases hk with rfl | ⟨e', rfl⟩
  · cases a with
    | none => simp [Builtin.append_, run_underlying hu, run_underlying hu2, run_size hs, hl, hf, hroom]
    | some a => simp [Builtin.append_, run_underlying hu, run_underlying hu2, run_size hs, hl, hf, hroom]
  · cases a with
    | none => simp [Builtin.append_, run_underlying hu, run_underlying hu2, run_size hs, hl, hf, hroom]
    | some a => simp [Builtin.append_, run_underlying hu, run_underlying hu2, run_size hs, hl, hf, hroom]

theorem run_app_grow {t t2 ty e : TypeId} {k2 : TypeDesc} {n : Nat} (hu : C.P.underlying t = some (.slice e)) (hu2 : C.P.underlying t2 = some k2) (hk : k2 = .string ∨ ∃ e', k2 = .slice e') (hs : szB C.T e n = true)
    {i : TypeInfo} {z : Value} (hi : C.P.info? e = some i) (hz : i.zero = some z) (hb : 1 ≤ i.bytes)
    {a : Option Addr} {sLen sCap m : Nat} {x : Value} {olds news : List Value} (hl : (Builtin.lenOf x).run C.P w = .ok m w) (hf : (Builtin.firstCells n m x).run C.P w.drew = .ok news.toArray w.drew)
    (ho : (Builtin.firstCells n sLen (.slice a sLen sCap)).run C.P w.drew = .ok olds.toArray w.drew)
    (hroom : sCap < sLen + m) (hfit : (sLen + m) * i.bytes ≤ 140737488355328) :
    (Builtin.append_ #[t, t2] ty #[.slice a sLen sCap, x]).run C.P w =
      .ok (.slice (some ⟨w.heap.size, 0, none⟩) (sLen + m) (grownCap w (sLen + m) sCap e))
        (w.drew.alloc (.cells (olds.toArray ++ news.toArray ++ Builtin.zeroCells z.cells (grownCap w (sLen + m) sCap e - (sLen + m))) e)) := by
  have hn : ¬ (sLen + m ≤ sCap) := by omega
  have hb0 : i.bytes ≠ 0 := by omega
  have h48' : ¬ (281474976710656 < Builtin.nextslicecap (sLen + m) sCap * i.bytes) := by
    have := growslice_fits hroom hfit; omega
  have hc : ∀ z : Array Value, olds.toArray ++ (news.toArray ++ z) = (olds ++ news).toArray ++ z := fun z => by apply Array.toList_inj.1; simp only [Array.toList_append, List.append_assoc]
  rcases hk with rfl | ⟨e', rfl⟩
  · simp [-List.append_toArray, hc, Builtin.append_, run_underlying hu, run_underlying hu2, run_size hs, typeInfo, zeroValue, hi, hz, hl, hf, ho, hn, hb0, h48', Question.forced, newRow, grownCap]
  · simp [-List.append_toArray, hc, Builtin.append_, run_underlying hu, run_underlying hu2, run_size hs, typeInfo, zeroValue, hi, hz, hl, hf, ho, hn, hb0, h48', Question.forced, newRow, grownCap]

end
end Go.Proofs.Ytnffdeokhcojfaa.E

namespace Go.Proofs.Ytnffdeokhcojfaa.E
open Go
set_option linter.unusedSimpArgs false
set_option linter.unusedVariables false

section
variable {C : Ctx} {I : Set'} {β : Nat → Value} {F : Nat → List Nat} {σ : St} {w : World} {tm : Array Value}

theorem RL.toNil {α : Type} {R R' : α → List Value → List Nat → Prop} : ∀ {xs : List α} {cs X}, (∀ x c Y, (∀ b ∈ Y, b ∈ X) → R x c Y → R' x c []) → RL R xs cs X → RL R' xs cs []
  | [], _, _, _, ⟨h, _⟩ => ⟨h, rfl⟩
  | _ :: _, _, _, hr, ⟨c1, c2, X1, X2, h1, h2, h3, h4⟩ =>
    ⟨c1, c2, [], [], h1, rfl, hr _ _ _ (by subst h2; intro b hb; simp [hb]) h3, RL.toNil (fun x c Y hY => hr x c Y (by subst h2; intro b hb; have := hY b hb; simp [this])) h4⟩

theorem RM.toNil {α β : Type} {K K' : α → List Value → List Nat → Prop} {V V' : β → List Value → List Nat → Prop} {wk wv : List Value → Value} :
    ∀ {xs : List (α × β)} {es X}, (∀ x c, K x c [] → K' x c []) → (∀ x c Y, (∀ b ∈ Y, b ∈ X) → V x c Y → V' x c []) → RM K V wk wv xs es X → RM K' V' wk wv xs es []
  | [], _, _, _, _, ⟨h, _⟩ => ⟨h, rfl⟩
  | _ :: _, _, _, hk, hv, ⟨e, r, ck, cv, X1, X2, h1, h2, h3, h4, h5, h6, h7⟩ =>
    ⟨e, r, ck, cv, [], [], h1, rfl, h3, h4, hk _ _ h5, hv _ _ _ (by subst h2; intro b hb; simp [hb]) h6, RM.toNil hk (fun x c Y hY => hv x c Y (by subst h2; intro b hb; have := hY b hb; simp [this])) h7⟩

theorem Rep.plain {h h' : Hp} {S S' : Set'} {l l' : Bool} : ∀ {t : Ty} {x : den t} {cs X}, t.plain = true → Rep h S l t x cs X → X = [] ∧ Rep h' S' l' t x cs []
  | .int _, _, _, _, _, hr | .bool, _, _, _, _, hr | .str, _, _, _, _, hr | .unit, _, _, _, _, hr => ⟨hr.2, hr.1, rfl⟩
  | .pair a b, _, _, _, hf, ⟨c1, c2, X1, X2, h1, h2, h3, h4⟩ => by
    simp only [Ty.plain, Bool.and_eq_true] at hf
    obtain ⟨e1, r1⟩ := Rep.plain hf.1 h3
    obtain ⟨e2, r2⟩ := Rep.plain hf.2 h4
    exact ⟨by rw [h2, e1, e2]; rfl, c1, c2, [], [], h1, rfl, r1, r2⟩
  | .arr _ t, _, _, _, hf, ⟨h1, h2⟩ => by
    have hX := RL.noX (fun _ _ _ hr => (Rep.plain (h' := h) (S' := S) (l' := l) (t := t) hf hr).1) h2
    subst hX
    exact ⟨rfl, h1, RL.toNil (fun x c Y hY hr => (Rep.plain (t := t) hf hr).2) h2⟩
  | .sl _ _, _, _, _, hf, _ | .ptr _ _, _, _, _, hf, _ | .ref _ _, _, _, _, hf, _ | .map _ _ _, _, _, _, hf, _ => by simp [Ty.plain] at hf

/-! one quiet operation, in a state that knows its operands alone -/

theorem RL.upP {h : Hp} {L I : Set'} {l l' : Bool} {u : Ty} {xs : List (den u)} {cs : List Value} (hl : l = true → l' = true ∨ u.plain = true) (hr : RL (Rep h (Sx L I l) true u) xs cs []) : RL (Rep h (Sx L I l') true u) xs cs [] := by
  cases hp : u.plain with
  | true => exact RL.mono_mem (fun x c Y _ hY hr => by
      have : Y = [] := by cases Y with | nil => rfl | cons b Y => exact absurd (hY b (by simp)) (by simp)
      subst this
      exact (Rep.plain hp hr).2) hr
  | false =>
    have hl' : l = true → l' = true := fun h => (hl h).resolve_right (by simp [hp])
    exact RL.mono_mem (fun x c Y _ _ hr => Rep.keep (fun b hb => ⟨by rcases hb with hb | ⟨h1, h2⟩; exact .inl hb; exact .inr ⟨hl' h1, h2⟩, rfl⟩) (fun _ _ => rfl) hr) hr

theorem RL.up {h : Hp} {L I : Set'} {l l' : Bool} {u : Ty} {xs : List (den u)} {cs : List Value} (hl : l = true → l' = true) (hr : RL (Rep h (Sx L I l) true u) xs cs []) : RL (Rep h (Sx L I l') true u) xs cs [] :=
  RL.mono_mem (fun x c Y _ _ hr => Rep.keep (fun b hb => ⟨by rcases hb with hb | ⟨h1, h2⟩; exact .inl hb; exact .inr ⟨hl h1, h2⟩, rfl⟩) (fun _ _ => rfl) hr) hr

/-- elements are laid into the old block, behind what was there -/
theorem app_room (hi : Inv C I β F σ w tm) {d r b o c : Nat} {R : Root} (hl : look σ.r r = some R) (hF : F r = [b]) {arr : Array Value} {E' : TypeId} {fr : Nat × Nat}
    (hb : hpOf w b = some (.cells arr E' fr)) (hc : calm arr.size fr) {u : Ty} (hf : u.flat = true) {l : Bool} {xs ys : List (den u)} {cx cy : List Value} (hcap : o + c * u.size ≤ arr.size)
    (hx : RL (Rep (hpOf w) (Sx C.L I l) true u) xs cx []) (hy : RL (Rep (hpOf w) (Sx C.L I l) true u) ys cy []) (he : cx = (arr.toList.drop o).take (xs.length * u.size)) (hn : xs.length + ys.length ≤ c) :
    ∃ w', (storeCells ⟨b, o + xs.length * u.size, none⟩ cy).run C.P w = .ok () w' ∧ w'.heap.size = w.heap.size ∧
      Inv C I (updF β d (.slice (some ⟨b, o, none⟩) (xs.length + ys.length) c)) (updF F d [b]) ((σ.kill r).new d (.arr l u (xs ++ ys))) w' tm := by
  have hlx := RL.len (fun _ _ _ => Rep.len) hx
  have hly := RL.len (fun _ _ _ => Rep.len) hy
  have h1 : xs.length * u.size + ys.length * u.size ≤ c * u.size := by rw [← Nat.add_mul]; exact Nat.mul_le_mul_right _ hn
  have hone : ∀ v ∈ cy, v.oneCell' = true := RL.one (fun _ _ _ hr => Rep.one hr) hy
  obtain ⟨w', arr', g1, g2, g3, g4, g5, g6, g7⟩ := run_store_cells (C := C) (b := b) (o := o + xs.length * u.size) (E := E') (fr := fr) cy 0 arr w hb hc (by rw [hly]; omega) hone
  refine ⟨w', g1, g6, ?_⟩
  have hown := hi.own r R hl b (by rw [hF]; simp)
  have hI : ∀ k, I k → hpOf w' k = hpOf w k := fun k hk => g5 k (by rintro rfl; exact hown.1 hk)
  have hL : ∀ k, C.L k → hpOf w' k = hpOf w k := fun k hk => g5 k (by rintro rfl; exact hown.2.1 hk)
  refine (hi.kill r).new d _ _ [b] (by omega) g7 (fun k _ hk => g5 k (by rintro rfl; simp at hk)) ?_ (by simp) ?_ ?_
  · refine ⟨some ⟨b, o, none⟩, c, by simp, by simpa using hn, .inr ⟨b, o, arr', E', fr, [], rfl, g2, by rw [g3]; exact hcap, ?_, ?_⟩⟩
    · have hcs : List.take ((xs ++ ys).length * u.size) (List.drop o arr'.toList) = cx ++ cy := by
        have hal : arr.toList.length = arr.size := by simp
        have e1 : (List.take (o + xs.length * u.size + 0) arr.toList).drop o = cx := by
          rw [Nat.add_zero, List.drop_take, he]; congr 1; omega
        have e2 : List.drop o arr'.toList = (cx ++ cy) ++ List.drop (o + xs.length * u.size + 0 + cy.length) arr.toList := by
          rw [g4, List.append_assoc, List.drop_append_of_le_length (by simp; omega), e1, List.append_assoc]
        rw [e2, List.take_left' (by simp only [List.length_append, hlx, hly]; rw [Nat.add_mul])]
      rw [hcs]
      have hxy := RL.append hx hy
      exact RL.mono_mem (fun x c Y _ hY hr => by
        have : Y = [] := by cases Y with | nil => rfl | cons b Y => exact absurd (hY b (by simp)) (by simp)
        subst this
        refine rep_any hf (Rep.keep (fun k hk => ⟨hk, ?_⟩) (fun _ hk => by simp at hk) hr)
        rcases hk with hk | ⟨_, hk⟩
        · exact hI k hk
        · exact hL k hk) hxy
    · rw [if_pos (by rfl)]
      exact ⟨rfl, by rw [g3]; exact hc⟩
  · intro k hk
    simp at hk
    subst hk
    exact ⟨hown.1, hown.2.1, by omega, hown.2.2.2⟩
  · intro k R' hk hl' k' hk' hm
    simp at hm
    subst hm
    obtain ⟨e1, e2⟩ := look_del hl'
    exact hi.disj r k R R' (fun e => e1 e.symm) hl e2 k' (by rw [hF]; simp) hk'

theorem opAppend_ok (hi : Inv C I β F σ w tm) {dst : Option Nat} {t t2 ty : TypeId} {u : Ty} {a z sv : SV} {σ' : St} {va vz : Value}
    (ha : SVR (hpOf w) C.L I β σ.r a va) (hz : SVR (hpOf w) C.L I β σ.r z vz) (he : opAppend C.T dst t t2 u a z σ = some (true, sv, σ')) :
    After C I σ' w tm sv ((Builtin.append_ #[t, t2] ty #[va, vz]).run C.P w) := by
  unfold opAppend at he
  split at he
  · rename_i d e k2 hu hu2
    split at he
    · rename_i hok
      simp only [Bool.and_eq_true, Bool.not_eq_true'] at hok
      obtain ⟨⟨⟨⟨⟨hk, hs⟩, hs0⟩, hf⟩, hby⟩, hzl⟩ := hok
      have hk : k2 = .string ∨ ∃ e', k2 = .slice e' := by cases k2 <;> first | exact .inl rfl | exact .inr ⟨_, rfl⟩ | cases hk
      split at he
      · rename_i hshape
        split at he
        · rename_i la xs lx ys hxs hys
          simp only [Option.some.injEq, Prod.mk.injEq, decide_eq_true_eq] at he
          obtain ⟨hbytes, rfl, rfl⟩ := he
          obtain ⟨cx, rx, Sx', ex, ox⟩ := elems_ok hi ha hf hxs
          obtain ⟨cy, ry, Sy', ey, oy⟩ := elems_ok hi hz hf hys
          obtain ⟨j, f1, f2⟩ := sz_ok hs
          have hT : ∃ i, C.T e = some i ∧ bytesB C.T e = i.bytes := by
            unfold szB at hs; unfold bytesB
            split at hs
            · rename_i i hti; exact ⟨i, hti, by simp [hti]⟩
            · cases hs
          obtain ⟨i, hti, hbb⟩ := hT
          obtain ⟨hund, j2, z2, q1, q2, q3, q4, q5⟩ := C.ok e i hti
          rw [f1] at q1
          obtain rfl := Option.some.inj q1
          have hb1 : 1 ≤ j.bytes := by rw [q3, ← hbb]; exact Nat.le_of_ble_eq_true hby
          have rx' : RL (Rep (hpOf w) (Sx C.L I ((la || lx) && !u.plain)) true u) xs cx [] := RL.upP (by intro h; cases u.plain <;> simp [h]) rx
          have ry' : RL (Rep (hpOf w) (Sx C.L I ((la || lx) && !u.plain)) true u) ys cy [] := RL.upP (by intro h; cases u.plain <;> simp [h]) ry
          have hlx := RL.len (fun _ _ _ => Rep.len) rx
          have hly := RL.len (fun _ _ _ => Rep.len) ry
          have hfy : (Builtin.firstCells u.size ys.length vz).run C.P w = .ok cy.toArray w := by
            have := run_first (C := C) ey (rfl : w.heap = w.heap) ys.length (Nat.le_refl _)
            rwa [List.take_of_length_le (by rw [hly]; exact Nat.le_refl _)] at this
          have hfy' : (Builtin.firstCells u.size ys.length vz).run C.P w.drew = .ok cy.toArray w.drew := by
            have := run_first (C := C) ey (rfl : w.drew.heap = w.heap) ys.length (Nat.le_refl _)
            rwa [List.take_of_length_le (by rw [hly]; exact Nat.le_refl _)] at this
          have hfx' : (Builtin.firstCells u.size xs.length va).run C.P w.drew = .ok cx.toArray w.drew := by
            have := run_first (C := C) ex (rfl : w.drew.heap = w.heap) xs.length (Nat.le_refl _)
            rwa [List.take_of_length_le (by rw [hlx]; exact Nat.le_refl _)] at this
          have hlz := run_lenOf (C := C) (w := w) ey
          have hik : Inv C I β F (match a.root with | some r => σ.kill r | none => σ) w tm := by
            cases a.root with
            | none => exact hi
            | some r => exact hi.kill r
          have hshape : ∃ A c, va = .slice A xs.length c ∧ xs.length ≤ c ∧ ((xs = [] ∧ A = A ∧ c = 0) ∨ ∃ r R b o arr E fr, a.root = some r ∧ look σ.r r = some R ∧ A = some ⟨b, o, none⟩ ∧ hpOf w b = some (.cells arr E fr) ∧ o + c * u.size ≤ arr.size ∧
              cx = (arr.toList.drop o).take (xs.length * u.size) ∧ F r = [b] ∧ calm arr.size fr) := by
            cases hr : a.root with
            | none =>
              cases a with
              | nl =>
                simp [elems] at hxs
                obtain ⟨_, rfl⟩ := hxs
                obtain ⟨a0, ha⟩ := ha
                exact ⟨a0, 0, ha, Nat.le_refl _, .inl ⟨rfl, rfl, rfl⟩⟩
              | sf _ => simp [SV.root] at hr
              | s _ _ _ => simp [SV.root] at hr
              | _ => simp at hshape
            | some r =>
              have hR : ∃ R, look σ.r r = some R := by
                cases a with
                | sf _ => simp [SV.root] at hr; subst hr; obtain ⟨_, _, _, h, _⟩ := ha; exact ⟨_, h⟩
                | s _ _ _ => simp [SV.root] at hr; subst hr; obtain ⟨_, _, _, h, _⟩ := ha; exact ⟨_, h⟩
                | _ => simp [SV.root] at hr
              obtain ⟨R, hR⟩ := hR
              obtain ⟨A, c, e1, e2, e3⟩ := ox r hr
              refine ⟨A, c, e1, e2, ?_⟩
              rcases e3 with e3 | ⟨b, o, arr, E', fr, g1, g2, g3, g4, g5, g6⟩
              · exact .inl e3
              · exact .inr ⟨r, R, b, o, arr, E', fr, rfl, hR, g1, g2, g3, g4, g5, g6⟩
          obtain ⟨A, c, rfl, hc, hcase⟩ := hshape
          by_cases hroom : xs.length + ys.length ≤ c
          · rw [run_app_room (und_ok hu) (und_ok hu2) hk hs hlz hfy hroom]
            rcases hcase with ⟨rfl, _, rfl⟩ | ⟨r, R, b, o, arr, E', fr, hr, hR, rfl, g2, g3, g4, g5, g6⟩
            · simp at hroom
              subst hroom
              have hcy : cy = [] := by cases cy with | nil => rfl | cons _ _ => simp at hly
              subst hcy
              cases A with
              | none =>
                simp only [List.length_nil, Nat.add_zero, Sem.run_pure, Result.andThen_ok, List.append_nil]
                refine ⟨_, w, I, _, _, rfl, hik.new d (.arr ((la || lx) && !u.plain) u []) (.slice none 0 0) [] (Nat.le_refl _) rfl (fun _ _ _ => rfl) ⟨none, 0, rfl, Nat.le_refl _, .inl ⟨rfl, rfl, rfl, rfl⟩⟩ (by simp) (by simp) (by simp), ?_, fun _ h => h, Nat.le_refl _⟩
                exact ⟨_, _, _, look_cons_same, by rw [updF_same]⟩
              | some A =>
                simp only [List.length_nil, Nat.add_zero, storeCells, Sem.run_pure, Result.andThen_ok, List.append_nil]
                refine ⟨_, w, I, _, _, rfl, hik.new d (.arr ((la || lx) && !u.plain) u []) (.slice (some A) 0 0) [] (Nat.le_refl _) rfl (fun _ _ _ => rfl) ⟨some A, 0, rfl, Nat.le_refl _, .inl ⟨rfl, rfl, rfl, rfl⟩⟩ (by simp) (by simp) (by simp), ?_, fun _ h => h, Nat.le_refl _⟩
                exact ⟨_, _, _, look_cons_same, by rw [updF_same]⟩
            · simp only [addr_add, hr] at *
              obtain ⟨w', k1, k2, k3⟩ := app_room (C := C) (d := d) hi hR g5 g2 g6 hf g3 rx' ry' g4 hroom
              simp only [k1, Result.andThen_ok]
              exact ⟨_, w', I, _, _, rfl, k3, ⟨_, _, _, look_cons_same, by rw [updF_same]⟩, fun _ h => h, by omega⟩
          · have hfit : (xs.length + ys.length) * j.bytes ≤ 140737488355328 := by rw [q3, ← hbb]; exact hbytes
            rw [run_app_grow (und_ok hu) (und_ok hu2) hk hs f1 q4 hb1 hlz hfy' hfx' (by omega) hfit]
            have hD : w.drew.heap = w.heap := rfl
            obtain ⟨a1, a2, a3⟩ := hp_alloc (w := w.drew) (.cells (cx.toArray ++ cy.toArray ++ Builtin.zeroCells z2.cells (grownCap w (xs.length + ys.length) c e - (xs.length + ys.length))) e)
            have hzs : z2.cells.size = u.size := by
              unfold zlenB at hzl
              rw [hti] at hzl
              rw [← Array.length_toList, q5]
              exact Nat.eq_of_beq_eq_true hzl
            have hge := grownCap_ge w (xs.length + ys.length) c e
            have hsz : (cx.toArray ++ cy.toArray ++ Builtin.zeroCells z2.cells (grownCap w (xs.length + ys.length) c e - (xs.length + ys.length))).size = grownCap w (xs.length + ys.length) c e * u.size := by
              have e1 : grownCap w (xs.length + ys.length) c e * u.size = (xs.length * u.size + ys.length * u.size) + (grownCap w (xs.length + ys.length) c e - (xs.length + ys.length)) * u.size := by
                rw [← Nat.add_mul, ← Nat.add_mul]; congr 1; omega
              rw [e1, Array.size_append, Array.size_append, size_zeroCells, hzs]
              simp [hlx, hly]
            obtain ⟨b1, b2⟩ := arr_after (d := d) (l := (la || lx) && !u.plain) (u := u) (xs := xs ++ ys) (cs := cx ++ cy) (cap := grownCap w (xs.length + ys.length) c e) hik hf (w' := w.drew.alloc (.cells (cx.toArray ++ cy.toArray ++ Builtin.zeroCells z2.cells (grownCap w (xs.length + ys.length) c e - (xs.length + ys.length))) e)) a1 a2 a3 rfl (RL.append rx' ry') (by simpa using hge) (by rw [hsz]; exact Nat.le_refl _) (.inl rfl)
              (by
                have : (cx.toArray ++ cy.toArray ++ Builtin.zeroCells z2.cells (grownCap w (xs.length + ys.length) c e - (xs.length + ys.length))).toList = (cx ++ cy) ++ (Builtin.zeroCells z2.cells (grownCap w (xs.length + ys.length) c e - (xs.length + ys.length))).toList := by simp
                rw [this, List.take_left' (by simp only [List.length_append, hlx, hly]; rw [Nat.add_mul])])
            simp only [List.length_append] at b1 b2
            refine ⟨_, _, I, _, _, rfl, b1, b2, fun _ h => h, by simp⟩
        · simp at he
      · simp at he
    · simp at he
  · simp at he

end
end Go.Proofs.Ytnffdeokhcojfaa.E

namespace Go.Proofs.Ytnffdeokhcojfaa.E
open Go
set_option linter.unusedSimpArgs false
set_option linter.unusedVariables false

section
variable {C : Ctx} {I : Set'} {β : Nat → Value} {F : Nat → List Nat} {σ : St} {w : World} {tm : Array Value}

theorem rl_u8 {h : Hp} {S : Set'} : ∀ {xs : List Int} {cs : List Value}, RL (Rep h S true (.int .u8)) xs cs [] → cs = xs.map (Value.int .u8)
  | [], _, ⟨h, _⟩ => h
  | x :: xs, _, ⟨c1, c2, X1, X2, h1, h2, h3, h4⟩ => by
    obtain ⟨rfl, _⟩ := h3
    have hX : X2 = [] := by
      have := List.append_eq_nil_iff.1 h2.symm
      exact this.2
    subst hX
    rw [h1, rl_u8 h4]; rfl

theorem conv_int {s t : TypeId} {d : TypeDesc} {k j : IntKind} {n : Int} (hs : C.P.underlying s = some d) (ht : C.P.underlying t = some (.int k)) :
    (convert s t (.int j n)).run C.P w = .ok (.int k (k.wrap n)) w := by
  cases d <;> simp [convert, run_underlying hs, run_underlying ht, Conv.intToInt]

theorem conv_str {s t : TypeId} {d : TypeDesc} {b : ByteArray} (hs : C.P.underlying s = some d) (ht : C.P.underlying t = some .string) :
    (convert s t (.string b)).run C.P w = .ok (.string b) w := by
  cases d <;> simp [convert, run_underlying hs, run_underlying ht]

theorem upd_self : ∀ {ρ : List (Nat × Root)} {r : Nat} {R : Root}, look ρ r = some R → upd ρ r R = ρ
  | [], _, _, h => by simp [look] at h
  | (k, a) :: l, r, R, h => by
    simp only [look] at h
    simp only [upd]
    cases hb : Nat.beq k r with
    | true =>
      rw [hb] at h
      simp only [Option.some.injEq] at h
      subst h
      obtain rfl := Nat.eq_of_beq_eq_true hb
      rfl
    | false =>
      rw [hb] at h
      simp only
      rw [upd_self h]

theorem hp_freeze {b k : Nat} {arr : Array Value} {E' : TypeId} {fr : Nat × Nat} (hb : hpOf w b = some (.cells arr E' fr)) (hc : calm arr.size fr) (hk : arr.size ≤ k) :
    ∃ fr', calm arr.size fr' ∧ hpOf (w.freeze ⟨b, k, none⟩ 1) b = some (.cells arr E' fr') ∧ (∀ j, j ≠ b → hpOf (w.freeze ⟨b, k, none⟩ 1) j = hpOf w j) ∧ (w.freeze ⟨b, k, none⟩ 1).heap.size = w.heap.size ∧ restOf (w.freeze ⟨b, k, none⟩ 1) = restOf w := by
  obtain ⟨lo, hi'⟩ := fr
  refine ⟨if lo == hi' then (k, k + 1) else (min lo k, max hi' (k + 1)), ?_, ?_, ?_, ?_, ?_⟩
  · by_cases h : (lo == hi') = true
    · rw [if_pos h]; exact .inr hk
    · rw [if_neg h]
      rcases hc with hc | hc
      · simp only [Prod.mk.injEq] at hc; simp [hc.1, hc.2] at h
      · refine .inr ?_
        show arr.size ≤ min lo k
        have : arr.size ≤ lo := hc
        omega
  · simp only [hpOf, World.freeze] at hb ⊢
    rw [if_neg (by decide)]
    simp only [Array.getElem?_modify]
    simp [hb]
  · intro j hj
    simp only [hpOf, World.freeze]
    rw [if_neg (by decide)]
    simp only [Array.getElem?_modify]
    rw [if_neg (fun h => hj h.symm)]
  · simp only [World.freeze]
    rw [if_neg (by decide)]
    simp
  · simp only [World.freeze, restOf]
    rw [if_neg (by decide)]

theorem opMark_ok (hi : Inv C I β F σ w tm) {s e : TypeId} {r : Nat} {l : Bool} {u : Ty} {x : den u} {xs : List (den u)} {va : Value} (hus : und C.T s = some (.slice e)) (hue : und C.T e = some (.int .u8))
    (ha : SVR (hpOf w) C.L I β σ.r (.sf r) va) (hr : look σ.r r = some (.arr l u (x :: xs))) : After C I σ w tm (.sf r) ((convert s s va).run C.P w) := by
  have hR := hi.roots r _ hr
  obtain ⟨l', u', xs', h1, rfl⟩ := ha
  obtain ⟨a, c, e1, e2, e3⟩ := hR
  simp only [List.cons.injEq, and_true] at e1
  rcases e3 with ⟨g1, _⟩ | ⟨b, o, arr, E', fr, X', rfl, g2, g3, g4, g5⟩
  · cases g1
  · simp only [Bool.not_false, Bool.and_true, if_true] at g5
    obtain ⟨fr', k1, k2, k3, k4, k5⟩ := hp_freeze g2 g5.2 (Nat.le_refl arr.size)
    have hsh : w.shape? b = some (E', arr.size) := by
      have : w.heap[b]? = some (.cells arr E' fr) := g2
      unfold World.shape?; rw [this]
    have hrun : (convert s s (β r)).run C.P w = .ok (β r) (w.freeze ⟨b, arr.size, none⟩ 1) := by
      rw [e1]
      simp [convert, run_underlying (und_ok hus), run_underlying (und_ok hue), markStringish, hsh]
    rw [hrun]
    have hF : b ∈ F r := by rw [g5.1]; simp
    refine ⟨β r, _, I, β, F, rfl, ?_, ⟨l', u', xs', h1, rfl⟩, fun _ h => h, by rw [k4]; exact Nat.le_refl _⟩
    have hi2 := hi.write (w' := w.freeze ⟨b, arr.size, none⟩ 1) hr (Root.like.refl _) k4 k5 (fun j _ hj => k3 j (by rintro rfl; exact hj hF)) (R' := .arr l u (x :: xs)) ?_
    · have : upd σ.r r (.arr l u (x :: xs)) = σ.r := upd_self hr
      rw [this] at hi2
      exact hi2
    · refine ⟨some ⟨b, o, none⟩, c, by rw [e1], e2, .inr ⟨b, o, arr, E', fr', X', rfl, k2, g3, ?_, ?_⟩⟩
      · refine RL.mono_mem (fun y cs Y _ hY hq => Rep.keep (fun j hj => ⟨hj, k3 j ?_⟩) (fun j hj => k3 j ?_) hq) g4
        · rintro rfl
          rcases hj with hj | ⟨_, hj⟩
          · exact (hi.own r _ hr j hF).1 hj
          · exact (hi.own r _ hr j hF).2.1 hj
        · rintro rfl
          have hn := hi.nodup r _ hr
          rw [g5.1] at hn
          exact (List.nodup_cons.1 hn).1 (hY j hj)
      · simp only [Bool.not_false, Bool.and_true, if_true]
        exact ⟨g5.1, k1⟩

theorem opConv_ok (hi : Inv C I β F σ w tm) {dst : Option Nat} {s t : TypeId} {a sv : SV} {σ' : St} {va : Value}
    (ha : SVR (hpOf w) C.L I β σ.r a va) (he : opConv C.T dst s t a σ = some (true, sv, σ')) :
    After C I σ' w tm sv ((convert s t va).run C.P w) := by
  unfold opConv at he
  split at he
  · rename_i ds k hus hut
    split at he
    · rename_i l j n
      simp only [Option.some.injEq, Prod.mk.injEq, true_and] at he
      obtain ⟨rfl, rfl⟩ := he
      obtain rfl := of_int (k := j) (n := n) ha
      rw [conv_int (und_ok hus) (und_ok hut)]
      exact hi.after svr_int
    · simp at he
  · rename_i hus hut
    split at he
    · rename_i l x
      simp only [Option.some.injEq, Prod.mk.injEq, true_and] at he
      obtain ⟨rfl, rfl⟩ := he
      obtain rfl := of_str ha
      rw [conv_str (und_ok hus) (und_ok hut)]
      exact hi.after svr_str
    · simp at he
  · rename_i e hus hut
    split at he
    · rename_i l x d hue
      simp only [Option.some.injEq, Prod.mk.injEq, true_and] at he
      obtain ⟨rfl, rfl⟩ := he
      obtain rfl := of_str ha
      rw [Lib.run_convert_string_bytes w s t e _ (und_ok hus) (und_ok hut) (und_ok hue)]
      have hsz : (⟨⟨x⟩⟩ : ByteArray).size = x.length := rfl
      have hge := grownCap_ge w x.length 0 e
      have hbs : (Lib.bytesCells w e ⟨⟨x⟩⟩).size = grownCap w x.length 0 e := by
        simp only [Lib.bytesCells, hsz]
        simp
        omega
      obtain ⟨b1, b2⟩ := arr_after (w' := Lib.bytesWorld w e ⟨⟨x⟩⟩) (d := d) (l := false) (u := .int .u8) (xs := x.map fun c => (c.toNat : Int)) (cs := x.map fun c => Value.int .u8 (c.toNat : Int)) (cap := grownCap w x.length 0 e) hi rfl
        (Lib.bytesWorld_at_new w e ⟨⟨x⟩⟩) (fun k hk => Lib.bytesWorld_at_old w e ⟨⟨x⟩⟩ k hk) (Lib.bytesWorld_size w e ⟨⟨x⟩⟩) rfl (rep_str_bytes x) (by simpa using hge) (by rw [hbs]; simp [Ty.size]) (.inr (Nat.le_refl _))
        (by
          have h1 : (Lib.bytesCells w e ⟨⟨x⟩⟩).toList = (x.map fun c => Value.int .u8 (c.toNat : Int)) ++ (Array.replicate (grownCap w x.length 0 e - x.length) (Value.int .u8 0)).toList := by
            simp [Lib.bytesCells, hsz]
          rw [h1, List.take_left' (by simp [Ty.size])])
      simp only [List.length_map] at b1 b2
      refine ⟨_, _, I, _, _, rfl, b1, b2, fun _ h => h, ?_⟩
      rw [Lib.bytesWorld_size]; omega
    · simp at he
  · rename_i e hus hut
    split at he
    · rename_i hue
      cases hel : elems σ (.int .u8) a with
      | none => simp [hel] at he
      | some q =>
        obtain ⟨l, xs⟩ := q
        simp only [hel, Option.some.injEq, Prod.mk.injEq, true_and] at he
        obtain ⟨rfl, rfl⟩ := he
        obtain ⟨cs, rx, S', ex, _⟩ := elems_ok hi ha rfl hel
        have hcs := rl_u8 rx
        have hres : SVR (hpOf w) C.L I β σ.r (.v false .str (xs.map fun n => UInt8.ofNat n.toNat)) (.string (strOfNums xs)) := svr_str
        rcases ex.2 with ⟨s', rfl, _, hl, hc⟩ | ⟨A, c, rfl, hc, ⟨h0, _, rfl⟩ | ⟨b, o, arr, E', fr, rfl, hb, ho, hc2⟩⟩
        · rw [conv_str (und_ok hus) (und_ok hut)]
          rw [hcs] at hc
          have hxs : xs = s'.map fun c => (c.toNat : Int) := by
            have hinj : ∀ (a : List Int) (b : List UInt8), a.map (Value.int .u8) = b.map (fun c => Value.int .u8 (c.toNat : Int)) → a = b.map fun c => (c.toNat : Int) := by
              intro a
              induction a with
              | nil => intro b h; cases b with | nil => rfl | cons => simp at h
              | cons x a ih => intro b h; cases b with
                | nil => simp at h
                | cons y b => simp at h ⊢; exact ⟨h.1, by have := ih b (by simpa using h.2); simpa using this⟩
            exact hinj xs s' hc
          have hback : (xs.map fun n => UInt8.ofNat n.toNat) = s' := by
            rw [hxs, List.map_map]
            conv => rhs; rw [← List.map_id s']
            apply List.map_congr_left
            intro c _
            simp
          rw [hback]
          exact hi.after svr_str
        · subst h0
          simp only [List.length_nil]
          cases A with
          | none =>
            rw [run_convert_bytes_nil w s e (und_ok hus) (und_ok hue) 0 0 t (und_ok hut)]
            exact hi.after hres
          | some A =>
            rw [run_convert_bytes_string w s t e _ 0 0 (und_ok hus) (und_ok hue) (und_ok hut), run_bytesToString w _ 0 0 [] (by rfl), foldl_push_bytes]
            exact hi.after hres
        · rw [run_convert_bytes_arg w s e (und_ok hus) (und_ok hue) b o xs.length c xs rfl ?_ t (und_ok hut)]
          · exact hi.after hres
          · intro i hlt
            rw [cell_at hb]
            have hx : cs[i]? = some (.int .u8 (xs.getD i 0)) := by
              rw [hcs]; simp [List.getD, hlt]
            rw [hc2, List.getElem?_take] at hx
            split at hx
            · rw [List.getElem?_drop] at hx; simpa using hx
            · cases hx
    · simp at he
  · rename_i e e2 hus hut
    split at he
    · rename_i r hst hue
      obtain rfl := Nat.eq_of_beq_eq_true hst
      split at he
      · rename_i l u x xs hr
        simp only [Option.some.injEq, Prod.mk.injEq, true_and] at he
        obtain ⟨rfl, rfl⟩ := he
        exact opMark_ok hi hus hue ha hr
      · cases he
    · cases he
  · simp at he

theorem opPick_ok (hi : Inv C I β F σ w tm) {c a b sv : SV} {σ' : St} {vc va vb : Value}
    (hc : SVR (hpOf w) C.L I β σ.r c vc) (ha : vc = .bool true → SVR (hpOf w) C.L I β σ.r a va) (hb : vc = .bool false → SVR (hpOf w) C.L I β σ.r b vb) (he : opPick c a b σ = some (true, sv, σ')) :
    ∃ g, vc = .bool g ∧ σ' = σ ∧ SVR (hpOf w) C.L I β σ.r sv (if g then va else vb) := by
  unfold opPick at he
  split at he
  · rename_i l g l1 x l2 y
    simp only [Option.some.injEq, Prod.mk.injEq, true_and] at he
    obtain ⟨rfl, rfl⟩ := he
    have hg := of_bool (b := g) hc
    refine ⟨g, hg, rfl, ?_⟩
    cases g with
    | true => obtain rfl := of_bool (b := x) (ha hg); exact svr_bool
    | false => obtain rfl := of_bool (b := y) (hb hg); exact svr_bool
  · rename_i l g _
    have hg := of_bool (b := g) hc
    cases g with
    | true =>
      simp only [Option.some.injEq, Prod.mk.injEq, true_and] at he
      obtain ⟨rfl, rfl⟩ := he
      exact ⟨true, hg, rfl, ha hg⟩
    | false =>
      simp only [Option.some.injEq, Prod.mk.injEq, true_and] at he
      obtain ⟨rfl, rfl⟩ := he
      exact ⟨false, hg, rfl, hb hg⟩
  · simp at he

theorem maxL_ok : ∀ {l : List SV} {vs : List Value} {a n : Int} {k : IntKind}, maxL a l k = some n → All2 (SVR (hpOf w) C.L I β σ.r) l vs → (vs.foldlM Builtin.max2 (.int k a)).run C.P w = .ok (.int k n) w
  | [], [], a, n, k, h, _ => by simp [maxL] at h; subst h; simp
  | [], _ :: _, _, _, _, _, h => h.elim
  | sv :: l, [], _, _, _, _, h => h.elim
  | sv :: l, v :: vs, a, n, k, h, ⟨h1, h2⟩ => by
    cases sv with
    | v q t b =>
      cases t with
      | int j =>
        simp only [maxL] at h
        cases hk : kindEq j k with
        | false => simp [hk] at h
        | true =>
          simp only [hk] at h
          obtain rfl := kindEq_iff hk
          obtain rfl := of_int (k := j) (n := b) h1
          have ih := maxL_ok h h2
          simp only [List.foldlM_cons, Sem.run_bind, Builtin.max2, Sem.run_pure, Result.andThen_ok]
          exact ih
      | _ => simp [maxL] at h
    | _ => simp [maxL] at h

theorem minL_ok : ∀ {l : List SV} {vs : List Value} {a n : Int} {k : IntKind}, minL a l k = some n → All2 (SVR (hpOf w) C.L I β σ.r) l vs → (vs.foldlM Builtin.min2 (.int k a)).run C.P w = .ok (.int k n) w
  | [], [], a, n, k, h, _ => by simp [minL] at h; subst h; simp
  | [], _ :: _, _, _, _, _, h => h.elim
  | sv :: l, [], _, _, _, _, h => h.elim
  | sv :: l, v :: vs, a, n, k, h, ⟨h1, h2⟩ => by
    cases sv with
    | v q t b =>
      cases t with
      | int j =>
        simp only [minL] at h
        cases hk : kindEq j k with
        | false => simp [hk] at h
        | true =>
          simp only [hk] at h
          obtain rfl := kindEq_iff hk
          obtain rfl := of_int (k := j) (n := b) h1
          have ih := minL_ok h h2
          simp only [List.foldlM_cons, Sem.run_bind, Builtin.min2, Sem.run_pure, Result.andThen_ok]
          exact ih
      | _ => simp [minL] at h
    | _ => simp [minL] at h

end
end Go.Proofs.Ytnffdeokhcojfaa.E

namespace Go.Proofs.Ytnffdeokhcojfaa.E
open Go
set_option linter.unusedSimpArgs false
set_option linter.unusedVariables false

/-- what one operation comes to -/
def AfterN (C : Ctx) (I : Set') (σ' : St) (w : World) (tm : Array Value) (sv : SV) (res : Result Next) : Prop :=
  ∃ nx v w' I' β' F', res = .ok nx w' ∧ (nx = .value v ∨ (nx = .skip ∧ v = undef)) ∧ Inv C I' β' F' σ' w' tm ∧ SVR (hpOf w') C.L I' β' σ'.r sv v ∧ (∀ b, I b → I' b) ∧ w.heap.size ≤ w'.heap.size

section
variable {C : Ctx} {I : Set'} {β : Nat → Value} {F : Nat → List Nat} {σ : St} {w : World} {tm : Array Value}

theorem isZero_some {tm : Array Value} {x : Option Operand} (h : isZero x = true) : ∃ k, x.map (evT tm) = some (.int k 0) := by
  unfold isZero at h
  split at h
  · rename_i k; exact ⟨k, rfl⟩
  · cases h

theorem told_mem : ∀ (k : Nat) {ps : List (Nat × SV)} {vs : List SV}, told k ps = some vs → ∀ p ∈ ps, p.2 ∈ vs
  | _, [], vs, h, p, hp => by simp at hp
  | k, (i, v) :: l, vs, h, p, hp => by
    simp only [told] at h
    split at h
    · cases ht : told (k + 1) l with
      | none => simp [ht] at h
      | some ws =>
        simp [ht] at h
        subst h
        rcases List.mem_cons.1 hp with rfl | hp
        · simp
        · simp [told_mem (k + 1) ht p hp]
    · cases h

theorem vals_tov {u : Ty} {len : Bool} {σ : St} : ∀ {vs : List SV} {xs : List (den u)}, vals σ u len vs = some xs → ∀ v ∈ vs, ∃ a, toV len u v = some a
  | [], _, _, v, hv => by simp at hv
  | v0 :: l, xs, h, v, hv => by
    simp only [vals] at h
    cases h1 : toV len u v0 with
    | none => simp [h1] at h
    | some a =>
      cases h2 : vals σ u len l with
      | none => simp [h1, h2] at h
      | some r =>
        rcases List.mem_cons.1 hv with rfl | hv
        · exact ⟨a, h1⟩
        · exact vals_tov h2 v hv

theorem opMkSl_tov {T : Tab} {dst : Option Nat} {t : TypeId} {u : Ty} {n : Nat} {ps : List (Nat × SV)} {r : Bool × SV × St} (he : opMkSl T dst t u n ps σ = some r) : ∀ p ∈ ps, ∃ len a, toV len u p.2 = some a := by
  unfold opMkSl at he
  split at he
  · rename_i d e vs hu ht
    split at he
    · split at he
      · rename_i xs hv
        intro p hp
        exact ⟨_, vals_tov hv _ (told_mem 0 ht p hp)⟩
      · cases he
    · cases he
  · cases he

theorem tov_all {I' : Set'} {ρ : List (Nat × Root)} {u : Ty} : ∀ {qs : List (Nat × SV)} {vs : List (Nat × Value)},
    All2 (fun (p : Nat × SV) (q : Nat × Value) => q.1 = p.1 ∧ (∀ len τ a, toV len τ p.2 = some a → SVR (hpOf w) C.L I' β ρ p.2 q.2)) qs vs → (∀ p ∈ qs, ∃ len a, toV len u p.2 = some a) →
    All2 (fun (p : Nat × SV) (q : Nat × Value) => q.1 = p.1 ∧ SVR (hpOf w) C.L I' β ρ p.2 q.2) qs vs
  | [], [], _, _ => trivial
  | [], _ :: _, h, _ => h
  | _ :: _, [], h, _ => h
  | q :: qs, v :: vs, ⟨⟨h1, h2⟩, h3⟩, ht => by
    obtain ⟨len, a, ha⟩ := ht q (by simp)
    exact ⟨⟨h1, h2 _ _ _ ha⟩, tov_all h3 (fun p hp => ht p (by simp [hp]))⟩

theorem both_some {R : Type} {A B : Option R} {r : R} (h : both A B = some r) : A = some r ∧ B = some r := by
  unfold both at h
  split at h
  · rename_i he; exact ⟨h, by rw [← he]; exact h⟩
  · cases h

theorem bthN_some {R : Type} {n : Nat} {A B : Option R} {r : R} (h : bthN n A B = some r) : (n = 0 → A = some r) ∧ B = some r := by
  unfold bthN at h
  split at h
  · exact ⟨fun _ => (both_some h).1, (both_some h).2⟩
  · exact ⟨fun hz => absurd hz (by simp), h⟩

theorem equal_sl_nil {t e : TypeId} (hu : C.P.underlying t = some (.slice e)) (a : Option Addr) (n c : Nat) : (Op.equal t (.slice a n c) (.slice none 0 0)).run C.P w = .ok a.isNone w := by
  unfold Op.equal Op.maxDepth
  rw [show (10000 : Nat) = 9999 + 1 from rfl, Op.equalIn]
  cases a <;> simp [Sem.run_bind, run_underlying hu w]

theorem eqGuard_sl (op : BinOp) (t : TypeId) (x y : Operand) (a : Option Addr) (n c : Nat) : (eqGuard op t x y (.slice a n c) (.slice none 0 0)).run C.P w = .ok () w := by
  unfold eqGuard; split <;> simp

theorem nilV {R : Type} (hi : Inv C I β F σ w tm) {sv : SV} {v : Value} (hs : SVR (hpOf w) C.L I β σ.r sv v) {A B : Option R} {res : R} (he : nilK σ sv A B = some res) :
    ∃ a n c, v = .slice a n c ∧ (a = none → A = some res) ∧ B = some res := by
  unfold nilK at he
  split at he
  · rename_i l o t xs
    obtain ⟨cs, hr, hv⟩ := hs
    obtain ⟨c1, rfl⟩ : ∃ c, cs = [c] := List.length_eq_one_iff.1 hr.len
    obtain rfl : v = c1 := hv
    obtain ⟨a, c, rfl, e2, e3, e4⟩ := sl_shape hr
    obtain ⟨h1, h2⟩ := bthN_some he
    exact ⟨a, _, c, rfl, fun h => h1 (by have := e4 h; omega), h2⟩
  · obtain ⟨a, rfl⟩ : ∃ a, v = .slice a 0 0 := hs
    exact ⟨a, 0, 0, rfl, fun _ => (both_some he).1, (both_some he).2⟩
  · rename_i r
    obtain ⟨l, t, xs, h1, rfl⟩ := hs
    rw [h1] at he
    simp only at he
    obtain ⟨a, c, e1, e2, e3, e4⟩ := sl_shape (hi.roots r _ h1)
    obtain ⟨g1, g2⟩ := bthN_some he
    exact ⟨a, _, c, e1, fun h => g1 (by have := e4 h; omega), g2⟩
  · rename_i r lo n
    obtain ⟨l, t, xs, h1, h2, a0, m0, c0, a', c', f1, rfl, f3, f4, f5⟩ := hs
    obtain ⟨g1, g2⟩ := bthN_some he
    refine ⟨a', n, c', rfl, fun h => g1 ?_, g2⟩
    rcases f5 with ⟨_, _, f5⟩ | ⟨bb, oo, kk, _, f5, _⟩
    · omega
    · rw [h] at f5; cases f5
  · cases he

theorem After.v {σ' : St} {sv : SV} {s : Sem Value} (h : After C I σ' w tm sv (s.run C.P w)) : AfterN C I σ' w tm sv ((do pure (.value (← s)) : Sem Next).run C.P w) := by
  obtain ⟨v, w', I', β', F', h1, h2, h3, h4, h5⟩ := h
  exact ⟨.value v, v, w', I', β', F', by simp only [Sem.run_bind, h1, Result.andThen_ok, Sem.run_pure], .inl rfl, h2, h3, h4, h5⟩

theorem AfterN.val (hi : Inv C I β F σ w tm) {sv : SV} {v : Value} (hs : SVR (hpOf w) C.L I β σ.r sv v) : AfterN C I σ w tm sv (.ok (.value v) w) :=
  ⟨_, v, w, I, β, F, rfl, .inl rfl, hi, hs, fun _ h => h, Nat.le_refl _⟩

theorem optR_map (hi : Inv C I β F σ w tm) {g : Option (Nat × Bool)} (hg : Gok tm g) (x : Option Operand) : OptR (hpOf w) C.L I β σ.r (x.map (σ.arg g)) (x.map (evT tm)) := by
  cases x with
  | none => trivial
  | some x => exact arg_ok hi hg x

theorem args_all (hi : Inv C I β F σ w tm) {g : Option (Nat × Bool)} (hg : Gok tm g) : ∀ xs : List Operand, All2 (SVR (hpOf w) C.L I β σ.r) (xs.map (σ.arg g)) (xs.map (evT tm))
  | [] => trivial
  | x :: xs => ⟨arg_ok hi hg x, args_all hi hg xs⟩

theorem exec_builtin {o : Oper} {c : Call} {b : Builtin} (ho : o.op = .call c) (hc : c.callee = .builtin b) (w : World) :
    ∃ k, (execOp (evT tm) o).run C.P w = (builtin b c.argTypes o.type k (c.args.map (evT tm))).run C.P w := by
  refine ⟨c.args.map fun | .const _ => true | _ => false, ?_⟩
  unfold execOp
  simp only [ho, resolve, hc, Sem.run_bind, Sem.run_pure, Result.andThen_ok, invoke]
  rfl

theorem map_toList {α β : Type} {f : α → β} {a : Array α} {l : List α} (h : a.toList = l) : a.map f = (l.map f).toArray := by
  subst h
  apply Array.toList_inj.1
  simp

theorem opD_ok (hi : Inv C I β F σ w tm) {g : Option (Nat × Bool)} (hg : Gok tm g) {E' : Env} (hT : E'.T = C.T) {o : Oper} {sv : SV} {σ' : St} (he : opD E' g o σ = some (true, sv, σ')) :
    AfterN C I σ' w tm sv ((execOp (evT tm) o).run C.P w) := by
  unfold opD at he
  simp only [hT] at he
  cases ho : o.op with
  | move x =>
    simp only [ho, Option.some.injEq, Prod.mk.injEq, true_and] at he
    obtain ⟨rfl, rfl⟩ := he
    unfold execOp; simp only [ho]
    exact .val hi (arg_ok hi hg x)
  | assign x =>
    simp only [ho, Option.some.injEq, Prod.mk.injEq, true_and] at he
    obtain ⟨rfl, rfl⟩ := he
    unfold execOp; simp only [ho]
    exact .val hi (arg_ok hi hg x)
  | pick c a b =>
    simp only [ho] at he
    have key : ∀ {a' b' : SV}, (evT tm c = .bool true → SVR (hpOf w) C.L I β σ.r a' (evT tm a)) → (evT tm c = .bool false → SVR (hpOf w) C.L I β σ.r b' (evT tm b)) → opPick (σ.arg g c) a' b' σ = some (true, sv, σ') →
        AfterN C I σ' w tm sv ((execOp (evT tm) o).run C.P w) := by
      intro a' b' ha hb hp
      obtain ⟨u, h1, rfl, h2⟩ := opPick_ok hi (arg_ok hi hg c) ha hb hp
      refine ⟨_, _, w, I, β, F, ?_, .inl rfl, hi, h2, fun _ h => h, Nat.le_refl _⟩
      unfold execOp
      cases u <;> simp [ho, h1, asBool]
    cases c with
    | tmp d =>
      simp only at he
      refine key (fun h => ?_) (fun h => ?_) he
      · split
        · exact arg_ok hi (fun d' u' hq => by simp only [Option.some.injEq, Prod.mk.injEq] at hq; obtain ⟨rfl, rfl⟩ := hq; exact h) a
        · exact arg_ok hi hg a
      · split
        · exact arg_ok hi (fun d' u' hq => by simp only [Option.some.injEq, Prod.mk.injEq] at hq; obtain ⟨rfl, rfl⟩ := hq; exact h) b
        · exact arg_ok hi hg b
    | _ => exact key (fun _ => arg_ok hi hg a) (fun _ => arg_ok hi hg b) he
  | alloc t =>
    simp only [ho] at he
    split at he
    · unfold execOp; simp only [ho]
      exact (opAlloc_ok hi he).v
    · simp at he
  | box t x =>
    simp only [ho] at he
    unfold execOp; simp only [ho]
    exact (opBox_ok hi (arg_ok hi hg x) he).v
  | build t ps =>
    simp only [ho] at he
    split at he
    · unfold execOp; simp only [ho]
      have := opBuild_ok hi hg he
      have hp : ps.map (fun p => (p.1, evT tm p.2)) = (ps.toList.map fun p => (p.1, evT tm p.2)).toArray := map_toList rfl
      rw [← hp] at this
      exact this.v
    · simp at he
  | buildSlice t n ps =>
    simp only [ho] at he
    split at he
    · split at he
      · unfold execOp; simp only [ho]
        have hp : ps.map (fun p => (p.1, evT tm p.2)) = (ps.toList.map fun p => (p.1, evT tm p.2)).toArray := map_toList rfl
        cases hsl : sharedL g σ ps.toList with
        | mk qs σ1 =>
          rw [hsl] at he
          simp only at he
          obtain ⟨I1, hi1, hI1, ha⟩ := sharedL_ok hg ps.toList hi hsl
          have := opMkSl_ok hi1 (tov_all ha (opMkSl_tov he)) he
          rw [← hp] at this
          obtain ⟨nx, v, w', I', β', F', k1, k2, k3, k4, k5, k6⟩ := this.v
          exact ⟨nx, v, w', I', β', F', k1, k2, k3, k4, fun b hb => k5 b (hI1 b hb), k6⟩
      · simp at he
    · simp at he
  | load t a =>
    simp only [ho] at he
    unfold execOp; simp only [ho]
    exact ((opLoad_ok hi (arg_ok hi hg a) he).a hi).v
  | store t a v =>
    simp only [ho] at he
    unfold execOp; simp only [ho]
    obtain ⟨w', I', h1, h2, rfl, h4, h5⟩ := opStore_ok hi (arg_ok hi hg a) (arg_ok hi hg v) he
    exact ⟨.skip, undef, w', I', β, F, by simp only [Sem.run_bind, h1, Result.andThen_ok, Sem.run_pure], .inr ⟨rfl, rfl⟩, h2, trivial, h4, h5⟩
  | nilCheck x =>
    simp only [ho] at he
    obtain ⟨v, h1, rfl, h3⟩ := opNil_ok (ρ := evT tm) hi ho (arg_ok hi hg x) he
    rw [h1]
    exact .val hi h3
  | binOp op t x y q =>
    simp only [ho] at he
    unfold execOp; simp only [ho]
    exact ((opBin_ok hi x y (arg_ok hi hg x) (arg_ok hi hg y) he).a hi).v
  | unOp op t x =>
    simp only [ho] at he
    unfold execOp; simp only [ho]
    exact ((opUn_ok hi (arg_ok hi hg x) he).a hi).v
  | convert s t x =>
    simp only [ho] at he
    unfold execOp; simp only [ho]
    exact (opConv_ok hi (arg_ok hi hg x) he).v
  | makeSlice t n c =>
    simp only [ho] at he
    split at he
    · split at he
      · unfold execOp; simp only [ho]
        exact (opMake_ok hi (arg_ok hi hg n) (arg_ok hi hg c) he).v
      · simp at he
    · simp at he
  | slice t x lo hh mx =>
    simp only [ho] at he
    unfold execOp; simp only [ho]
    split at he
    · rename_i hz
      obtain ⟨k, hz⟩ := isZero_some (tm := tm) hz
      have hm := optR_map hi hg mx
      rw [hz] at hm ⊢
      exact ((opSlice0_ok hi (arg_ok hi hg x) (optR_map hi hg lo) (optR_map hi hg hh) hm he).a hi).v
    · exact ((opSlice_ok hi (arg_ok hi hg x) (optR_map hi hg lo) (optR_map hi hg hh) (optR_map hi hg mx) he).a hi).v
  | fieldAddr t x f =>
    simp only [ho] at he
    unfold execOp; simp only [ho]
    exact ((opFld_ok hi (arg_ok hi hg x) he).a hi).v
  | field t x f =>
    simp only [ho] at he
    unfold execOp; simp only [ho]
    exact ((opField_ok hi (arg_ok hi hg x) he).a hi).v
  | indexAddr t x i =>
    simp only [ho] at he
    unfold execOp; simp only [ho]
    exact ((opIdxA_ok hi (arg_ok hi hg x) (arg_ok hi hg i) he).a hi).v
  | index t x i =>
    simp only [ho] at he
    unfold execOp; simp only [ho]
    exact ((opIdx_ok hi (arg_ok hi hg x) (arg_ok hi hg i) he).a hi).v
  | extract x i =>
    simp only [ho] at he
    unfold execOp; simp only [ho]
    exact ((opExtract_ok hi (arg_ok hi hg x) he).a hi).v
  | call c =>
    simp only [ho] at he
    cases hc : c.callee with
    | builtin b =>
      simp only [hc] at he
      obtain ⟨k, hk⟩ := exec_builtin (C := C) (tm := tm) ho hc w
      rw [hk]
      cases b with
      | len =>
        simp only at he
        split at he
        · rename_i x t hx ht
          have h1 : c.argTypes = #[t] := Array.toList_inj.1 ht
          rw [map_toList (f := evT tm) hx, h1]
          exact ((opLen_ok hi (arg_ok hi hg x) he).a hi).v
        · simp at he
      | append =>
        simp only at he
        split at he
        · rename_i x y t t2 hx ht
          have h1 : c.argTypes = #[t, t2] := Array.toList_inj.1 ht
          rw [map_toList (f := evT tm) hx, h1]
          split at he
          · split at he
            · exact (opAppend_ok hi (arg_ok hi hg x) (arg_ok hi hg y) he).v
            · simp at he
          · simp at he
        · simp at he
      | max =>
        simp only at he
        have hall := args_all hi hg c.args.toList
        cases hl : c.args.toList with
        | nil => simp [hl] at he
        | cons x xs =>
          rw [hl] at hall
          simp only [hl, List.map_cons] at he
          split at he
          · rename_i l k a r heq
            simp only [List.cons.injEq] at heq
            obtain ⟨h1, rfl⟩ := heq
            cases hm : maxL a (List.map (σ.arg g) xs) k with
            | none => simp [hm] at he
            | some n =>
              simp only [hm, Option.some.injEq, Prod.mk.injEq, true_and] at he
              obtain ⟨rfl, rfl⟩ := he
              obtain ⟨a1, a2⟩ := hall
              rw [h1] at a1
              have e1 := of_int (k := k) (n := a) a1
              have e2 := maxL_ok hm a2
              have : (Builtin.max_ c.argTypes o.type (c.args.map (evT tm))).run C.P w = .ok (.int k n) w := by
                rw [map_toList (f := evT tm) hl]
                simp only [Builtin.max_, List.map_cons, e1]
                exact e2
              have h2 : After C I σ w tm (.v false (.int k) n) ((Builtin.max_ c.argTypes o.type (c.args.map (evT tm))).run C.P w) := by rw [this]; exact hi.after svr_int
              exact h2.v
          · simp at he
      | min =>
        simp only at he
        have hall := args_all hi hg c.args.toList
        cases hl : c.args.toList with
        | nil => simp [hl] at he
        | cons x xs =>
          rw [hl] at hall
          simp only [hl, List.map_cons] at he
          split at he
          · rename_i l k a r heq
            simp only [List.cons.injEq] at heq
            obtain ⟨h1, rfl⟩ := heq
            cases hm : minL a (List.map (σ.arg g) xs) k with
            | none => simp [hm] at he
            | some n =>
              simp only [hm, Option.some.injEq, Prod.mk.injEq, true_and] at he
              obtain ⟨rfl, rfl⟩ := he
              obtain ⟨a1, a2⟩ := hall
              rw [h1] at a1
              have e1 := of_int (k := k) (n := a) a1
              have e2 := minL_ok hm a2
              have : (Builtin.min_ c.argTypes o.type (c.args.map (evT tm))).run C.P w = .ok (.int k n) w := by
                rw [map_toList (f := evT tm) hl]
                simp only [Builtin.min_, List.map_cons, e1]
                exact e2
              have h2 : After C I σ w tm (.v false (.int k) n) ((Builtin.min_ c.argTypes o.type (c.args.map (evT tm))).run C.P w) := by rw [this]; exact hi.after svr_int
              exact h2.v
          · simp at he
      | _ => simp at he
    | _ => simp [hc] at he
  | _ => simp [ho] at he

end
end Go.Proofs.Ytnffdeokhcojfaa.E

namespace Go.Proofs.Ytnffdeokhcojfaa.E
open Go
set_option linter.unusedSimpArgs false
set_option linter.unusedVariables false

/-! what is handed on -/

/-- what is owned, read as lent -/
theorem Rep.lend {h : Hp} {S S' : Set'} (hS : ∀ b, S b → S' b) : ∀ {t : Ty} {l : Bool} {x : den t} {cs X}, (∀ b ∈ X, S' b) → Rep h S l t x cs X → Rep h S' true t x cs []
  | .int _, _, _, _, _, _, hr | .bool, _, _, _, _, _, hr | .str, _, _, _, _, _, hr | .unit, _, _, _, _, _, hr => ⟨hr.1, rfl⟩
  | .pair a b, _, _, _, _, hX, ⟨c1, c2, X1, X2, h1, h2, h3, h4⟩ =>
    ⟨c1, c2, [], [], h1, rfl, Rep.lend hS (fun b hb => hX b (by rw [h2]; simp [hb])) h3, Rep.lend hS (fun b hb => hX b (by rw [h2]; simp [hb])) h4⟩
  | .arr _ t, _, _, _, _, hX, ⟨h1, h2⟩ => ⟨h1, RL.toNil (fun x c Y hY hr => Rep.lend hS (fun b hb => hX b (hY b hb)) hr) h2⟩
  | .sl o t, l, _, _, _, hX, ⟨a, c, h1, h2, hr⟩ => by
    rcases hr with ⟨e1, e2, e3, h⟩ | ⟨b, of, arr, E, fr, X', e1, e2, e3, e4, hx⟩
    · exact ⟨a, c, h1, h2, .inl ⟨e1, e2, e3, rfl⟩⟩
    · refine ⟨a, c, h1, h2, .inr ⟨b, of, arr, E, fr, [], e1, e2, e3, ?_, ?_⟩⟩
      · refine RL.toNil (fun x c Y hY hr => Rep.lend hS (fun k hk => ?_) hr) e4
        split at hx
        · exact hX k (by rw [hx.1]; simp [hY k hk])
        · rw [hx.2.2] at hY; exact absurd (hY k hk) (by simp)
      · simp only [Bool.not_true, Bool.and_false, Bool.false_eq_true, if_false, and_true]
        split at hx
        · exact hX b (by rw [hx.1]; simp)
        · exact hS b hx.1
  | .ptr _ _, _, none, _, _, _, hr => ⟨hr.1, rfl⟩
  | .ptr o t, l, some _, _, _, hX, ⟨b, of, arr, E, fr, X', h1, h2, h2', h3, hx⟩ => by
    refine ⟨b, of, arr, E, fr, [], h1, h2, h2', Rep.lend hS (fun k hk => ?_) h3, ?_⟩
    · split at hx
      · exact hX k (by rw [hx.1]; simp [hk])
      · rw [hx.2.2] at hk; exact absurd hk (by simp)
    · simp only [Bool.not_true, Bool.and_false, Bool.false_eq_true, if_false, and_true]
      split at hx
      · exact hX b (by rw [hx.1]; simp)
      · exact hS b hx.1
  | .ref o t, l, _, _, _, hX, ⟨b, of, arr, E, fr, X', h1, h2, h2', h3, hx⟩ => by
    refine ⟨b, of, arr, E, fr, [], h1, h2, h2', Rep.lend hS (fun k hk => ?_) h3, ?_⟩
    · split at hx
      · exact hX k (by rw [hx.1]; simp [hk])
      · rw [hx.2.2] at hk; exact absurd hk (by simp)
    · simp only [Bool.not_true, Bool.and_false, Bool.false_eq_true, if_false, and_true]
      split at hx
      · exact hX b (by rw [hx.1]; simp)
      · exact hS b hx.1
  | .map o k v, l, _, _, _, hX, ⟨b, ents, clock, X', h1, h2, h3, hx⟩ => by
    refine ⟨b, ents, clock, [], h1, h2, RM.toNil (fun x c hr => Rep.lend hS (by simp) hr) (fun x c Y hY hr => Rep.lend hS (fun j hj => ?_) hr) h3, ?_⟩
    · split at hx
      · exact hX j (by rw [hx]; simp [hY j hj])
      · rw [hx.2.2] at hY; exact absurd (hY j hj) (by simp)
    · simp only [Bool.not_true, Bool.and_false, Bool.false_eq_true, if_false, and_true]
      split at hx
      · exact hX b (by rw [hx]; simp)
      · exact hS b hx.1

theorem Rep.ref_own {h : Hp} {S : Set'} {t : Ty} {o p : Bool} {x : den t} {cs : List Value} (hr : Rep h S true (.ref o t) x cs []) : Rep h S true (.ref p t) x cs [] := by
  obtain ⟨b, of, arr, E', fr, X', h1, h2, h2', h3, hx⟩ := hr
  refine ⟨b, of, arr, E', fr, X', h1, h2, h2', h3, ?_⟩
  simp only [Bool.not_true, Bool.and_false, Bool.false_eq_true, if_false] at hx ⊢
  exact hx

theorem Rep.sl_own {h : Hp} {S : Set'} {t : Ty} {o p : Bool} {x : List (den t)} {cs : List Value} (hr : Rep h S true (.sl o t) x cs []) : Rep h S true (.sl p t) x cs [] := by
  obtain ⟨a, c, h1, h2, hx⟩ := hr
  refine ⟨a, c, h1, h2, ?_⟩
  rcases hx with h | ⟨b, of, arr, E', fr, X', e1, e2, e3, e4, hx⟩
  · exact .inl h
  · refine .inr ⟨b, of, arr, E', fr, X', e1, e2, e3, e4, ?_⟩
    simp only [Bool.not_true, Bool.and_false, Bool.false_eq_true, if_false] at hx ⊢
    exact hx

/-- arguments: their values, what they own -/
def ArgsR (h : Hp) (L I : Set') : (ps : List (Bool × Ty)) → denL (ps.map (·.2)) → List Value → List (List Nat) → Prop
  | [], _, [], [] => True
  | (len, τ) :: ps, (a, r), v :: vs, X :: Xs => (∃ cs, Rep h (Sx L I len) len τ a cs X ∧ v = wrapV τ cs) ∧ ArgsR h L I ps r vs Xs
  | _, _, _, _ => False

/-- results -/
def RetsR (h : Hp) (I : Set') : (rs : List Ty) → denL rs → List Value → List (List Nat) → Prop
  | [], _, [], [] => True
  | τ :: rs, (a, r), v :: vs, X :: Xs => (∃ cs, Rep h I false τ a cs X ∧ v = wrapV τ cs) ∧ RetsR h I rs r vs Xs
  | _, _, _, _ => False

/-- what the boxes that were handed on hold -/
def OutsR (h : Hp) (I : Set') : (ps : List (Bool × Ty)) → List Value → denL (outTys ps) → List (List Nat) → Prop
  | [], _, _, Zs => Zs = []
  | (false, .ref true t) :: ps, v :: vs, (a, r), Z :: Zs => Rep h I false (.ref true t) a [v] Z ∧ OutsR h I ps vs r Zs
  | (false, .ref true t) :: ps, _, _, _ => False
  | (true, _) :: ps, _ :: vs, r, Zs => OutsR h I ps vs r Zs
  | (false, .int _) :: ps, _ :: vs, r, Zs => OutsR h I ps vs r Zs
  | (false, .bool) :: ps, _ :: vs, r, Zs => OutsR h I ps vs r Zs
  | (false, .str) :: ps, _ :: vs, r, Zs => OutsR h I ps vs r Zs
  | (false, .unit) :: ps, _ :: vs, r, Zs => OutsR h I ps vs r Zs
  | (false, .pair _ _) :: ps, _ :: vs, r, Zs => OutsR h I ps vs r Zs
  | (false, .arr _ _) :: ps, _ :: vs, r, Zs => OutsR h I ps vs r Zs
  | (false, .sl _ _) :: ps, _ :: vs, r, Zs => OutsR h I ps vs r Zs
  | (false, .ptr _ _) :: ps, _ :: vs, r, Zs => OutsR h I ps vs r Zs
  | (false, .ref false _) :: ps, _ :: vs, r, Zs => OutsR h I ps vs r Zs
  | (false, .map _ _ _) :: ps, _ :: vs, r, Zs => OutsR h I ps vs r Zs
  | _ :: _, [], _, _ => False

def tupleV : List Value → Value
  | [v] => v
  | l => .tuple l.toArray

/-- what a call comes to -/
structure Back (C : Ctx) (ps : List (Bool × Ty)) (rs : List Ty) (vs : List Value) (q : denL rs) (o : denL (outTys ps)) (v : Value) (w' : World) (I' : Set') (vals : List Value) (Ys Zs : List (List Nat)) : Prop where
  val : v = tupleV vals
  rets : RetsR (hpOf w') I' rs q vals Ys
  outs : OutsR (hpOf w') I' ps vs o Zs
  nodup : (Ys.flatten ++ Zs.flatten).Nodup
  own : ∀ b ∈ Ys.flatten ++ Zs.flatten, ¬ I' b ∧ ¬ C.L b ∧ b < w'.heap.size ∧ (C.X b ∨ C.n ≤ b)
  shared : ∀ b, I' b → b < w'.heap.size ∧ (C.I b ∨ C.X b ∨ C.n ≤ b)
  sub : ∀ b, C.I b → I' b
  frame : ∀ b, b < C.n → ¬ C.X b → hpOf w' b = C.h b
  grow : C.n ≤ w'.heap.size
  rest : restOf w' = C.z

/-- the function answers so, wherever it is called -/
def Hold (P : Program) (T : Tab) (f : FuncId) (ps : List (Bool × Ty)) (rs : List Ty) (a : denL (ps.map (·.2))) (q : denL rs) (o : denL (outTys ps)) : Prop :=
  ∀ (C : Ctx), C.P = P → C.T = T → ∀ (w : World) (vs : List Value) (Xs : List (List Nat)), hpOf w = C.h → w.heap.size = C.n → restOf w = C.z → ArgsR C.h C.L C.I ps a vs Xs →
    (∀ b, C.X b ↔ b ∈ Xs.flatten) → Xs.flatten.Nodup → (∀ b ∈ Xs.flatten, b < C.n) →
    Calls P f vs.toArray w fun e w' => ∃ v I' vals Ys Zs, e = .returned v ∧ Back C ps rs vs q o v w' I' vals Ys Zs

/-- what an answer that is built in must be worth -/
def PrimOk (P : Program) (E' : Env) : Prop :=
  ∀ (f : FuncId) (dst : Option Nat) (svs : List SV) (σ σ' : St) (sv : SV), E'.prim f dst svs σ = some (true, sv, σ') →
    (∃ F, P.funcs[f]? = some F ∧ F.body.isSome = true ∧ F.name ≠ "runtime.NumGoroutine") ∧
    ∀ (C : Ctx), C.P = P → C.T = E'.T → ∀ {I : Set'} {β : Nat → Value} {F : Nat → List Nat} {w : World} {tm : Array Value} {vs : List Value}, Inv C I β F σ w tm → All2 (SVR (hpOf w) C.L I β σ.r) svs vs →
      Calls P f vs.toArray w fun e w' => ∃ v, e = .returned v ∧ ∃ I' β' F', Inv C I' β' F' σ' w' tm ∧ SVR (hpOf w') C.L I' β' σ'.r sv v

/-- a plain function's answers are what the code comes to -/
def FnOk (P : Program) (E' : Env) (fn : E'.Fn) : Prop :=
  PrimOk P E' ∧
  ∀ f, E'.known f = true → (∃ F, P.funcs[f]? = some F ∧ F.body.isSome = true ∧ F.name ≠ "runtime.NumGoroutine") ∧
    ∀ a q o, fn f a = some (q, o) → Hold P E'.T f (E'.sig f).ps (E'.sig f).rs a q o

end Go.Proofs.Ytnffdeokhcojfaa.E

namespace Go.Proofs.Ytnffdeokhcojfaa.E
open Go
set_option linter.unusedSimpArgs false
set_option linter.unusedVariables false

theorem mem_appN {n : Nat} : ∀ {a b : List Nat}, n ∈ appN a b ↔ n ∈ a ∨ n ∈ b
  | [], b => by simp [appN]
  | k :: a, b => by simp [appN, mem_appN (a := a), or_assoc]

theorem natMem_iff {n : Nat} : ∀ {l : List Nat}, natMem n l = true ↔ n ∈ l
  | [] => by simp [natMem]
  | k :: l => by
    simp only [natMem, Bool.or_eq_true, natMem_iff (l := l), List.mem_cons]
    constructor
    · rintro (h | h)
      · exact .inl (Nat.eq_of_beq_eq_true h).symm
      · exact .inr h
    · rintro (rfl | h)
      · exact .inl (Nat.beq_refl _)
      · exact .inr h

theorem apart_iff : ∀ {l m : List Nat}, apart l m = true → l.Nodup ∧ ∀ k ∈ l, k ∉ m
  | [], m, _ => ⟨List.nodup_nil, by simp⟩
  | k :: l, m, h => by
    simp only [apart, Bool.and_eq_true, Bool.not_eq_true'] at h
    obtain ⟨⟨h1, h2⟩, h3⟩ := h
    obtain ⟨i1, i2⟩ := apart_iff h3
    refine ⟨List.nodup_cons.2 ⟨fun hm => ?_, i1⟩, ?_⟩
    · rw [natMem_iff.2 hm] at h1; cases h1
    · intro j hj
      rcases List.mem_cons.1 hj with rfl | hj
      · intro hm; rw [natMem_iff.2 hm] at h2; cases h2
      · exact i2 j hj

theorem there_iff {σ : St} : ∀ {l : List Nat}, there σ l = true → ∀ n ∈ l, ∃ R, look σ.r n = some R
  | [], _, n, h => by simp at h
  | k :: l, h, n, hn => by
    simp only [there, Bool.and_eq_true] at h
    rcases List.mem_cons.1 hn with rfl | hn
    · cases hl : look σ.r n with
      | none => simp [hl] at h
      | some R => exact ⟨R, rfl⟩
    · exact there_iff h.2 n hn

section
variable {C : Ctx} {I : Set'} {β : Nat → Value} {F : Nat → List Nat} {w : World} {tm : Array Value}

/-- as long as the roots that it leans on are there -/
def WS (h : Hp) (L I : Set') (β : Nat → Value) (ρ : List (Nat × Root)) (sv : SV) (v : Value) : Prop :=
  (∀ r, sv.uses r = true → look ρ r ≠ none) → SVR h L I β ρ sv v

theorem Rep.wide {h : Hp} {S S' : Set'} {l : Bool} {t : Ty} {x : den t} {cs : List Value} {X : List Nat} (hS : ∀ b, S b → S' b) (hr : Rep h S l t x cs X) : Rep h S' l t x cs X :=
  Rep.keep (fun b hb => ⟨hS b hb, rfl⟩) (fun _ _ => rfl) hr

theorem Sx.up {L L' I I' : Set'} {l l' : Bool} (hL : ∀ b, L b → L' b) (hI : ∀ b, I b → I' b) (hl : l = true → l' = true) : ∀ b, Sx L I l b → Sx L' I' l' b := by
  intro b hb
  rcases hb with hb | ⟨h1, h2⟩
  · exact .inl (hI b hb)
  · exact .inr ⟨hl h1, hL b h2⟩

/-- the root that is lent, as a slice, as a pointer's target -/
theorem lent_ok {σ : St} (hi : Inv C I β F σ w tm) {τ : Ty} {sv : SV} {v : Value} {a : den τ} (hs : WS (hpOf w) C.L I β σ.r sv v) (he : lentV σ τ sv = some a) {L1 I2 : Set'}
    (hL : ∀ b, C.L b → L1 b) (hF : ∀ r ∈ rootsOf sv, ∀ b ∈ F r, L1 b) (hI : ∀ b, I b → I2 b) : ∃ cs, Rep (hpOf w) (Sx L1 I2 true) true τ a cs [] ∧ v = wrapV τ cs := by
  have hroot : ∀ r l t (xs : List (den t)), r ∈ rootsOf sv → look σ.r r = some (.arr l t xs) → Rep (hpOf w) (Sx L1 I2 true) true (.sl false t) xs [β r] [] := by
    intro r l t xs hr hl
    have h1 := hi.roots r _ hl
    exact Rep.sl_own (Rep.lend (Sx.up hL hI (fun _ => rfl)) (fun b hb => .inr ⟨rfl, hF r hr b hb⟩) h1)
  have other : toV true τ sv = some a → (∀ r, sv.uses r = false) → ∃ cs, Rep (hpOf w) (Sx L1 I2 true) true τ a cs [] ∧ v = wrapV τ cs := by
    intro ht hu
    obtain ⟨cs, h1, h2⟩ := toV_ok ht (hs (fun r hr => by rw [hu r] at hr; cases hr))
    exact ⟨cs, h1.wide (Sx.up hL hI (fun _ => rfl)), h2⟩
  cases sv with
  | sf r =>
    simp only [lentV] at he
    split at he
    · rename_i u
      cases hq : elems σ u (.sf r) with
      | none => simp [hq] at he
      | some q =>
        simp [hq] at he
        subst he
        simp only [elems] at hq
        split at hq
        · rename_i l t xs hl
          cases hc : cast? (t := .sl false t) (.sl false u) xs with
          | none => simp [hc] at hq
          | some ys =>
            simp [hc] at hq
            subst hq
            obtain ⟨h1, h2⟩ := cast?_some hc
            simp only [Ty.sl.injEq, true_and] at h1
            subst h1
            have := eq_of_heq h2
            subst this
            obtain ⟨l', t', xs', hl', hv⟩ := hs (fun k hk => by simp [SV.uses, SV.uses0] at hk; subst hk; rw [hl]; simp)
            exact ⟨[β r], hroot r l t xs (by simp [rootsOf]) hl, hv⟩
        · simp at hq
    · simp at he
  | s r lo n =>
    simp only [lentV] at he
    split at he
    · rename_i u
      cases hq : elems σ u (.s r lo n) with
      | none => simp [hq] at he
      | some q =>
        simp [hq] at he
        subst he
        simp only [elems] at hq
        split at hq
        · rename_i l t xs hl
          cases hc : cast? (t := .sl false t) (.sl false u) xs with
          | none => simp [hc] at hq
          | some ys =>
            simp [hc] at hq
            subst hq
            obtain ⟨h1, h2⟩ := cast?_some hc
            simp only [Ty.sl.injEq, true_and] at h1
            subst h1
            have := eq_of_heq h2
            subst this
            obtain ⟨l', t', xs', hl', hn, hsub⟩ := hs (fun k hk => by simp [SV.uses, SV.uses0] at hk; subst hk; rw [hl]; simp)
            rw [hl] at hl'
            obtain ⟨rfl, rfl, hx⟩ := Root.arr.inj (Option.some.inj hl')
            have := eq_of_heq hx
            subst this
            exact ⟨[v], sub_rep (hroot r l t xs (by simp [rootsOf]) hl) hsub hn, rfl⟩
        · simp at hq
    · simp at he
  | q l t b =>
    simp only [lentV] at he
    split at he
    · rename_i u
      obtain ⟨rfl, he⟩ := cast?_some he
      have := eq_of_heq he
      subst this
      have h1 := hs (fun k hk => by simp [SV.uses, SV.uses0] at hk)
      exact ⟨[v], Rep.wide (Sx.up hL hI (fun _ => rfl)) h1, rfl⟩
    · simp at he
  | p r z =>
    cases z with
    | cons _ _ =>
      simp only [lentV] at he
      simp [toV] at he
    | nil =>
      simp only [lentV] at he
      split at he
      · rename_i u
        split at he
        · rename_i l t b hl
          obtain ⟨rfl, he⟩ := cast?_some he
          have := eq_of_heq he
          subst this
          obtain ⟨R, o, u', h1, h2, h3, h4⟩ := hs (fun k hk => by simp [SV.uses, SV.uses0] at hk; subst hk; rw [hl]; simp)
          rw [hl] at h1
          obtain rfl := Option.some.inj h1
          simp only [Root.off, selOff, Option.some.injEq, Prod.mk.injEq] at h2
          obtain ⟨rfl, rfl⟩ := h2
          have hR := hi.roots r _ hl
          have hv : v = β r := by
            obtain ⟨b', ob, arr, E', fr, X', e1, e2, e3, e4, e5⟩ := hR
            simp only [List.cons.injEq, and_true] at e1
            rw [h4, e1]; simp [ptrOf]
          refine ⟨[β r], Rep.ref_own (Rep.lend (Sx.up hL hI (fun _ => rfl)) (fun b hb => .inr ⟨rfl, hF r (by simp [rootsOf]) b hb⟩) hR), hv⟩
        · simp at he
      · simp at he
  | x => exact other he (fun _ => rfl)
  | np => exact other he (fun _ => rfl)
  | v _ _ _ => exact other he (fun _ => rfl)
  | nl => exact other he (fun _ => rfl)
  | tup _ => simp [lentV, toV] at he

theorem WS.shared {σ σ' : St} {I' : Set'} {sv' sv : SV} (hi : Inv C I β F σ w tm) (hsub : ∀ r, look σ'.r r ≠ none → look σ.r r ≠ none)
    (hk : ∀ sv2 v2, SVR (hpOf w) C.L I β σ.r sv2 v2 → (∀ r, sv2.uses r = true → look σ'.r r ≠ none) → SVR (hpOf w) C.L I' β σ'.r sv2 v2) {sv2 : SV} {v2 : Value}
    (hs : WS (hpOf w) C.L I β σ.r sv2 v2) : WS (hpOf w) C.L I' β σ'.r sv2 v2 := by
  intro hu
  exact hk sv2 v2 (hs fun r hr => hsub r (hu r hr)) hu

theorem sharedV_sub {σ σ' : St} {sv sv' : SV} (he : sharedV σ sv = (sv', σ')) : ∀ r R, look σ'.r r = some R → look σ.r r = some R := by
  intro r R hr
  unfold sharedV at he
  cases hroot : sv.root with
  | none => simp only [hroot, Prod.mk.injEq] at he; obtain ⟨_, rfl⟩ := he; exact hr
  | some k =>
    simp only [hroot] at he
    cases hl : look σ.r k with
    | none => simp only [hl, Prod.mk.injEq] at he; obtain ⟨_, rfl⟩ := he; exact hr
    | some R =>
      simp only [hl] at he
      cases R with
      | box l t a => simp only [Prod.mk.injEq] at he; obtain ⟨_, rfl⟩ := he; exact hr
      | arr l t xs =>
        simp only at he
        cases hf : t.flat with
        | false => simp only [hf, Prod.mk.injEq] at he; obtain ⟨_, rfl⟩ := he; exact hr
        | true =>
          simp only [hf, Prod.mk.injEq] at he
          obtain ⟨_, rfl⟩ := he
          simp only [St.frz, hl, hf] at hr
          exact (look_del hr).2

theorem some_of_ne {α : Type} {o o' : Option α} (h : ∀ R, o' = some R → o = some R) (hn : o' ≠ none) : o ≠ none := by
  cases o' with
  | none => exact (hn rfl).elim
  | some R => rw [h R rfl]; simp

theorem argV_ok {p p' : Pass} (hi : Inv C I β F p.σ w tm) {len : Bool} {τ : Ty} {sv : SV} {v : Value} {a : den τ} (hs : WS (hpOf w) C.L I β p.σ.r sv v) (he : argV p len τ sv = some (a, p')) :
    ∃ I' ks, Inv C I' β F p'.σ w tm ∧ (∀ b, I b → I' b) ∧ (∀ r R, look p'.σ.r r = some R → look p.σ.r r = some R) ∧ (∀ sv2 v2, WS (hpOf w) C.L I β p.σ.r sv2 v2 → WS (hpOf w) C.L I' β p'.σ.r sv2 v2) ∧
      p'.owns = ks ++ p.owns ∧ (∀ r ∈ p.lents, r ∈ p'.lents) ∧ (∀ r ∈ p.moved, r ∈ p'.moved) ∧ (ks = [] ∨ ∃ k, ks = [k]) ∧ (∀ r ∈ p'.moved, r ∈ p.moved ∨ r ∈ ks) ∧ (∀ r ∈ p.boxes, r ∈ p'.boxes) ∧
      (∀ L1 I2, (∀ b, C.L b → L1 b) → (∀ r ∈ p'.lents, ∀ b ∈ F r, L1 b) → (∀ b, I' b → I2 b) → ∃ cs, Rep (hpOf w) (Sx L1 I2 len) len τ a cs (ks.map F).flatten ∧ v = wrapV τ cs) ∧
      p'.σ.n = p.σ.n ∧ (¬ (len = false ∧ ∃ u, τ = .ref true u) → ∀ k ∈ ks, k ∈ p'.moved) ∧ (len = false → ∀ u (hτ : τ = .ref true u), ∃ r b, sv = .p r [] ∧ ks = [r] ∧ look p.σ.r r = some (.box false u b) ∧ v = β r ∧ r ∈ p'.boxes) := by
  cases len with
  | true =>
    simp only [argV] at he
    cases hl : lentV p.σ τ sv with
    | none => simp [hl] at he
    | some y =>
      simp [hl] at he
      obtain ⟨rfl, rfl⟩ := he
      exact ⟨I, [], hi, fun _ h => h, fun _ _ h => h, fun _ _ h => h, rfl, fun r hr => mem_appN.2 (.inr hr), fun _ h => h, .inl rfl, fun r hr => .inl hr, fun _ h => h,
        fun L1 I2 h1 h2 h3 => lent_ok hi hs hl h1 (fun r hr => h2 r (mem_appN.2 (.inl hr))) h3, rfl, fun _ k hk => by simp at hk, fun h => by cases h⟩
  | false =>
    have flatCase : ∀ (hf : τ.flat = true) (y : den τ), (match sharedV p.σ sv with | (sv, σ) => match toV false τ sv with | some y => some (y, { p with σ := σ }) | none => none) = some (a, p') →
        ∃ I' ks, Inv C I' β F p'.σ w tm ∧ (∀ b, I b → I' b) ∧ (∀ r R, look p'.σ.r r = some R → look p.σ.r r = some R) ∧ (∀ sv2 v2, WS (hpOf w) C.L I β p.σ.r sv2 v2 → WS (hpOf w) C.L I' β p'.σ.r sv2 v2) ∧
          p'.owns = ks ++ p.owns ∧ (∀ r ∈ p.lents, r ∈ p'.lents) ∧ (∀ r ∈ p.moved, r ∈ p'.moved) ∧ (ks = [] ∨ ∃ k, ks = [k]) ∧ (∀ r ∈ p'.moved, r ∈ p.moved ∨ r ∈ ks) ∧ (∀ r ∈ p.boxes, r ∈ p'.boxes) ∧
          (∀ L1 I2, (∀ b, C.L b → L1 b) → (∀ r ∈ p'.lents, ∀ b ∈ F r, L1 b) → (∀ b, I' b → I2 b) → ∃ cs, Rep (hpOf w) (Sx L1 I2 false) false τ a cs (ks.map F).flatten ∧ v = wrapV τ cs) ∧
          p'.σ.n = p.σ.n ∧ (¬ (∃ u, τ = .ref true u) → ∀ k ∈ ks, k ∈ p'.moved) := by
      intro hf y he
      cases hsh : sharedV p.σ sv with
      | mk sv' σ' =>
        simp only [hsh] at he
        cases ht : toV false τ sv' with
        | none => simp [ht] at he
        | some z =>
          simp [ht] at he
          obtain ⟨rfl, rfl⟩ := he
          have hsv : SVR (hpOf w) C.L I β p.σ.r sv v := by
            apply hs
            intro r hr hn
            cases sv with
            | sf k => simp [SV.uses, SV.uses0] at hr; subst hr; simp [sharedV, SV.root, hn] at hsh; obtain ⟨rfl, _⟩ := hsh; simp [toV] at ht
            | s k _ _ => simp [SV.uses, SV.uses0] at hr; subst hr; simp [sharedV, SV.root, hn] at hsh; obtain ⟨rfl, _⟩ := hsh; simp [toV] at ht
            | p k z => simp [sharedV, SV.root] at hsh; obtain ⟨rfl, _⟩ := hsh; simp [toV] at ht
            | tup _ => simp [sharedV, SV.root] at hsh; obtain ⟨rfl, _⟩ := hsh; simp [toV] at ht
            | _ => simp [SV.uses, SV.uses0] at hr
          obtain ⟨I', h1, h2, h3, h4, h5⟩ := shared_ok hi hsv hsh
          have hsub := sharedV_sub hsh
          refine ⟨I', [], h1, h3, hsub, fun sv2 v2 hw => WS.shared (sv' := sv') (sv := sv) hi (fun r => some_of_ne (hsub r)) h5 hw, rfl, fun _ h => h, fun _ h => h, .inl rfl, fun _ h => .inl h, fun _ h => h, ?_, h4, fun _ k hk => by simp at hk⟩
          intro L1 I2 g1 g2 g3
          obtain ⟨cs, e1, e2⟩ := toV_ok ht h2
          exact ⟨cs, rep_any hf (e1.wide (Sx.up g1 g3 (fun h => h))), e2⟩
    have fin : (¬ ∃ u, τ = .ref true u) → (∃ I' ks, Inv C I' β F p'.σ w tm ∧ (∀ b, I b → I' b) ∧ (∀ r R, look p'.σ.r r = some R → look p.σ.r r = some R) ∧ (∀ sv2 v2, WS (hpOf w) C.L I β p.σ.r sv2 v2 → WS (hpOf w) C.L I' β p'.σ.r sv2 v2) ∧
          p'.owns = ks ++ p.owns ∧ (∀ r ∈ p.lents, r ∈ p'.lents) ∧ (∀ r ∈ p.moved, r ∈ p'.moved) ∧ (ks = [] ∨ ∃ k, ks = [k]) ∧ (∀ r ∈ p'.moved, r ∈ p.moved ∨ r ∈ ks) ∧ (∀ r ∈ p.boxes, r ∈ p'.boxes) ∧
          (∀ L1 I2, (∀ b, C.L b → L1 b) → (∀ r ∈ p'.lents, ∀ b ∈ F r, L1 b) → (∀ b, I' b → I2 b) → ∃ cs, Rep (hpOf w) (Sx L1 I2 false) false τ a cs (ks.map F).flatten ∧ v = wrapV τ cs) ∧
          p'.σ.n = p.σ.n ∧ (¬ (∃ u, τ = .ref true u) → ∀ k ∈ ks, k ∈ p'.moved)) → 
        ∃ I' ks, Inv C I' β F p'.σ w tm ∧ (∀ b, I b → I' b) ∧ (∀ r R, look p'.σ.r r = some R → look p.σ.r r = some R) ∧ (∀ sv2 v2, WS (hpOf w) C.L I β p.σ.r sv2 v2 → WS (hpOf w) C.L I' β p'.σ.r sv2 v2) ∧
          p'.owns = ks ++ p.owns ∧ (∀ r ∈ p.lents, r ∈ p'.lents) ∧ (∀ r ∈ p.moved, r ∈ p'.moved) ∧ (ks = [] ∨ ∃ k, ks = [k]) ∧ (∀ r ∈ p'.moved, r ∈ p.moved ∨ r ∈ ks) ∧ (∀ r ∈ p.boxes, r ∈ p'.boxes) ∧
          (∀ L1 I2, (∀ b, C.L b → L1 b) → (∀ r ∈ p'.lents, ∀ b ∈ F r, L1 b) → (∀ b, I' b → I2 b) → ∃ cs, Rep (hpOf w) (Sx L1 I2 false) false τ a cs (ks.map F).flatten ∧ v = wrapV τ cs) ∧
          p'.σ.n = p.σ.n ∧ (¬ (false = false ∧ ∃ u, τ = .ref true u) → ∀ k ∈ ks, k ∈ p'.moved) ∧ (false = false → ∀ u (hτ : τ = .ref true u), ∃ r b, sv = .p r [] ∧ ks = [r] ∧ look p.σ.r r = some (.box false u b) ∧ v = β r ∧ r ∈ p'.boxes) := by
      rintro hn ⟨I', ks, h1, h2, h3, h4, h5, h6, h7, h8, h9, h10, h11, h12, h13⟩
      exact ⟨I', ks, h1, h2, h3, h4, h5, h6, h7, h8, h9, h10, h11, h12, fun _ => h13 hn, fun _ u hu => absurd ⟨u, hu⟩ hn⟩
    cases τ with
    | ref o u =>
      cases o with
      | false => simp only [argV] at he; split at he <;> first | (rename_i hf; exact fin (by rintro ⟨u, hu⟩; cases hu) (flatCase hf a he)) | (simp at he)
      | true =>
        simp only [argV] at he
        split at he
        · rename_i r
          split at he
          · rename_i t b hl
            cases hc : cast? (t := t) u b with
            | none => simp [hc] at he
            | some y =>
              simp [hc] at he
              obtain ⟨rfl, rfl⟩ := he
              obtain ⟨rfl, hx⟩ := cast?_some hc
              have := eq_of_heq hx
              subst this
              obtain ⟨R, o, u', h1, h2, h3, h4⟩ := hs (fun k hk => by simp [SV.uses, SV.uses0] at hk; subst hk; rw [hl]; simp)
              rw [hl] at h1
              obtain rfl := Option.some.inj h1
              simp only [Root.off, selOff, Option.some.injEq, Prod.mk.injEq] at h2
              obtain ⟨rfl, rfl⟩ := h2
              have hR := hi.roots r _ hl
              have hv : v = β r := by
                obtain ⟨b', ob, arr, E', fr, X', e1, e2, e3, e4, e5⟩ := hR
                simp only [List.cons.injEq, and_true] at e1
                rw [h4, e1]; simp [ptrOf]
              refine ⟨I, [r], hi, fun _ h => h, fun _ _ h => h, fun _ _ h => h, rfl, fun _ h => h, fun _ h => h, .inr ⟨r, rfl⟩, fun _ h => .inl h, fun _ h => by simp [h], ?_, rfl, fun hn => absurd ⟨rfl, _, rfl⟩ hn, fun _ u hu => ?_⟩
              rotate_left
              · simp only [Ty.ref.injEq, true_and] at hu
                subst hu
                exact ⟨r, _, rfl, rfl, hl, hv, by simp⟩
              intro L1 I2 g1 g2 g3
              refine ⟨[β r], ?_, hv⟩
              simp only [List.map_cons, List.map_nil, List.flatten_cons, List.flatten_nil, List.append_nil]
              exact Rep.wide (Sx.up g1 g3 (fun h => h)) hR
          · simp at he
        · simp at he
    | sl o u =>
      cases o with
      | false => simp only [argV] at he; split at he <;> first | (rename_i hf; exact fin (by rintro ⟨u, hu⟩; cases hu) (flatCase hf a he)) | (simp at he)
      | true =>
        simp only [argV] at he
        split at he
        · rename_i r
          split at he
          · rename_i t xs hl
            cases hc : cast? (t := .sl true t) (.sl true u) xs with
            | none => simp [hc] at he
            | some y =>
              simp [hc] at he
              obtain ⟨rfl, rfl⟩ := he
              obtain ⟨h0, hx⟩ := cast?_some hc
              simp only [Ty.sl.injEq, true_and] at h0
              subst h0
              have := eq_of_heq hx
              subst this
              obtain ⟨l', t', xs', hl', hv⟩ := hs (fun k hk => by simp [SV.uses, SV.uses0] at hk; subst hk; rw [hl]; simp)
              have hR := hi.roots r _ hl
              refine ⟨I, [r], hi, fun _ h => h, fun _ _ h => h, fun _ _ h => h, rfl, fun _ h => h, fun _ h => by simp [h], .inr ⟨r, rfl⟩, fun k h => by simp at h ⊢; exact h.symm, fun _ h => h, ?_, rfl, fun _ k hk => by simp at hk; simp [hk], fun _ u hu => by cases hu⟩
              intro L1 I2 g1 g2 g3
              refine ⟨[β r], ?_, hv⟩
              simp only [List.map_cons, List.map_nil, List.flatten_cons, List.flatten_nil, List.append_nil]
              exact Rep.wide (Sx.up g1 g3 (fun h => h)) hR
          · simp at he
        · simp at he
          obtain ⟨rfl, rfl⟩ := he
          obtain ⟨a0, rfl⟩ : ∃ a0, v = .slice a0 0 0 := hs (fun k hk => by simp [SV.uses, SV.uses0] at hk)
          refine ⟨I, [], hi, fun _ h => h, fun _ _ h => h, fun _ _ h => h, rfl, fun _ h => h, fun _ h => h, .inl rfl, fun _ h => .inl h, fun _ h => h, ?_, rfl, fun _ k hk => by simp at hk, fun _ u hu => by cases hu⟩
          intro L1 I2 g1 g2 g3
          exact ⟨[.slice a0 0 0], ⟨a0, 0, rfl, Nat.le_refl _, .inl ⟨rfl, rfl, rfl, rfl⟩⟩, rfl⟩
        · simp at he
    | _ => simp only [argV] at he; split at he <;> first | (rename_i hf; exact fin (by rintro ⟨u, hu⟩; cases hu) (flatCase hf a he)) | (simp at he)

end
end Go.Proofs.Ytnffdeokhcojfaa.E

namespace Go.Proofs.Ytnffdeokhcojfaa.E
open Go
set_option linter.unusedSimpArgs false
set_option linter.unusedVariables false

section
variable {C : Ctx} {I : Set'} {β : Nat → Value} {F : Nat → List Nat} {w : World} {tm : Array Value}

/-- the boxes that are handed on; what else is owned is moved -/
def BoxR (β : Nat → Value) (ρ : List (Nat × Root)) (ms : List Nat) : (ps : List (Bool × Ty)) → List SV → List Value → List (List Nat) → Prop
  | [], [], [], [] => True
  | (len, τ) :: ps, sv :: svs, v :: vs, ks :: kss => (len = false → ∀ u, τ = .ref true u → ∃ r, sv = .p r [] ∧ ks = [r] ∧ (∃ b, look ρ r = some (.box false u b)) ∧ v = β r) ∧
      (¬ (len = false ∧ ∃ u, τ = .ref true u) → ∀ k ∈ ks, k ∈ ms) ∧ BoxR β ρ ms ps svs vs kss
  | _, _, _, _ => False

theorem argsV_ok : ∀ (ps : List (Bool × Ty)) {I : Set'} {svs : List SV} {vs : List Value} {p p' : Pass} {a : denL (ps.map (·.2))}, Inv C I β F p.σ w tm → All2 (WS (hpOf w) C.L I β p.σ.r) svs vs →
    argsV ps svs p = some (a, p') → ∃ I' kss, Inv C I' β F p'.σ w tm ∧ (∀ b, I b → I' b) ∧ (∀ r R, look p'.σ.r r = some R → look p.σ.r r = some R) ∧ (∀ sv2 v2, WS (hpOf w) C.L I β p.σ.r sv2 v2 → WS (hpOf w) C.L I' β p'.σ.r sv2 v2) ∧
      p'.owns = kss.reverse.flatten ++ p.owns ∧ (∀ ks ∈ kss, ks = [] ∨ ∃ k, ks = [k]) ∧ (∀ r ∈ p.lents, r ∈ p'.lents) ∧ (∀ r ∈ p.moved, r ∈ p'.moved) ∧ (∀ r ∈ p'.moved, r ∈ p.moved ∨ r ∈ kss.flatten) ∧ (∀ r ∈ p.boxes, r ∈ p'.boxes) ∧
      (∀ r ∈ kss.flatten, r ∈ p'.moved ∨ r ∈ p'.boxes) ∧
      (∀ L1 I2, (∀ b, C.L b → L1 b) → (∀ r ∈ p'.lents, ∀ b ∈ F r, L1 b) → (∀ b, I' b → I2 b) → ArgsR (hpOf w) L1 I2 ps a vs (kss.map fun ks => (ks.map F).flatten)) ∧
      p'.σ.n = p.σ.n ∧ (∀ ρ ms, (∀ r ∈ kss.flatten, ∃ R, look p'.σ.r r = some R) → (∀ r ∈ p'.boxes, look ρ r = look p'.σ.r r) → (∀ r ∈ p'.moved, r ∈ ms) → BoxR β ρ ms ps svs vs kss)
  | [], I, [], [], p, p', a, hi, _, he => by
    simp [argsV] at he
    obtain ⟨_, rfl⟩ := he
    exact ⟨I, [], hi, fun _ h => h, fun _ _ h => h, fun _ _ h => h, rfl, by simp, fun _ h => h, fun _ h => h, fun _ h => .inl h, fun _ h => h, by simp, fun _ _ _ _ _ => trivial, rfl, fun _ _ _ _ _ => trivial⟩
  | [], I, [], _ :: _, _, _, _, _, h, _ => h.elim
  | [], I, _ :: _, _, p, p', a, hi, h, he => by simp [argsV] at he
  | (len, τ) :: ps, I, [], _, _, _, _, _, _, he => by simp [argsV] at he
  | (len, τ) :: ps, I, sv :: svs, [], _, _, _, _, h, _ => h.elim
  | (len, τ) :: ps, I, sv :: svs, v :: vs, p, p', a, hi, ⟨h1, h2⟩, he => by
    simp only [argsV] at he
    cases hq : argV p len τ sv with
    | none => simp [hq] at he
    | some q =>
      obtain ⟨x, p1⟩ := q
      simp only [hq] at he
      cases hr : argsV ps svs p1 with
      | none => simp [hr] at he
      | some q2 =>
        obtain ⟨r, p2⟩ := q2
        simp only [hr, Option.some.injEq, Prod.mk.injEq] at he
        obtain ⟨rfl, rfl⟩ := he
        obtain ⟨I1, ks, a1, a2, a3, a4, a5, a6, a7, a8, a9, a10, a11, a12, a13, a14⟩ := argV_ok hi h1 hq
        obtain ⟨I2, kss, b1, b2, b3, b4, b5, b6, b7, b8, b9, b10, b11, b12, b13, b14⟩ := argsV_ok ps a1 (h2.imp fun sv2 _ v2 h => a4 sv2 v2 h) hr
        refine ⟨I2, ks :: kss, b1, fun b hb => b2 b (a2 b hb), fun r R h => a3 r R (b3 r R h), fun sv2 v2 h => b4 sv2 v2 (a4 sv2 v2 h), ?_, ?_, fun r h => b7 r (a6 r h), fun r h => b8 r (a7 r h), ?_, fun r h => b10 r (a10 r h), ?_, ?_, by rw [b13, a12], ?_⟩
        · rw [b5, a5]; simp
        · intro k hk
          rcases List.mem_cons.1 hk with rfl | hk
          · exact a8
          · exact b6 k hk
        · intro r hr
          rcases b9 r hr with h | h
          · rcases a9 r h with h | h
            · exact .inl h
            · exact .inr (by simp [h])
          · exact .inr (by simp only [List.flatten_cons, List.mem_append]; exact .inr h)
        · intro r hr
          simp only [List.flatten_cons, List.mem_append] at hr
          rcases hr with hr | hr
          · by_cases hb : len = false ∧ ∃ u, τ = .ref true u
            · obtain ⟨e1, u, e2⟩ := hb
              obtain ⟨k, b, _, hks, _, _, hm⟩ := a14 e1 u e2
              rw [hks] at hr
              simp at hr
              subst hr
              exact .inr (b10 _ hm)
            · exact .inl (b8 r (a13 hb r hr))
          · exact b11 r hr
        · intro L1 J h3 h4 h5
          exact ⟨a11 L1 J h3 (fun r hr => h4 r (b7 r hr)) (fun b hb => h5 b (b2 b hb)), b12 L1 J h3 h4 h5⟩
        · intro ρ ms hall hρ hms
          refine ⟨?_, fun hn k hk => hms k (b8 k (a13 hn k hk)), b14 ρ ms (fun r hr => hall r (by simp only [List.flatten_cons, List.mem_append]; exact .inr hr)) hρ hms⟩
          intro e1 u e2
          obtain ⟨k, b, g1, g2, g3, g4, g5⟩ := a14 e1 u e2
          refine ⟨k, g1, g2, ?_, g4⟩
          obtain ⟨R, hR⟩ := hall k (by simp [g2])
          have := a3 k R (b3 k R hR)
          rw [g3] at this
          obtain rfl := Option.some.inj this
          exact ⟨b, by rw [hρ k (b10 k g5)]; exact hR⟩

theorem killL_look : ∀ (ms : List Nat) (σ : St) (r : Nat), look (killL ms σ).r r = if r ∈ ms then none else look σ.r r
  | [], σ, r => by simp [killL]
  | m :: ms, σ, r => by
    rw [killL, killL_look ms]
    by_cases h : r ∈ ms
    · simp [h]
    · simp only [h, if_false, List.mem_cons, or_false, St.kill]
      by_cases e : r = m
      · subst e; simp [look_del_same]
      · simp [e, look_del_ne e]

theorem Inv.killL {σ : St} : ∀ (ms : List Nat), Inv C I β F σ w tm → Inv C I β F (E.killL ms σ) w tm := by
  intro ms
  induction ms generalizing σ with
  | nil => exact fun h => h
  | cons m ms ih => exact fun h => ih (h.kill m)

theorem killL_n : ∀ (ms : List Nat) (σ : St), (killL ms σ).n = σ.n
  | [], σ => rfl
  | m :: ms, σ => by rw [killL, killL_n ms]; rfl

/-- the world is another behind a call; boxes hold something else -/
theorem Inv.change {σ : St} (hi : Inv C I β F σ w tm) {w' : World} {I' : Set'} {F' : Nat → List Nat} {ρ : List (Nat × Root)} (hsz : w.heap.size ≤ w'.heap.size) (hz : restOf w' = restOf w)
    (hI : ∀ b, I b → I' b ∧ hpOf w' b = hpOf w b) (hL : ∀ b, C.L b → hpOf w' b = hpOf w b)
    (hkeep : ∀ r R, look σ.r r = some R → ∃ R', look ρ r = some R' ∧ R.like R')
    (hroots : ∀ r R, look ρ r = some R → RootR (hpOf w') C.L I' (β r) R (F' r) ∧ (F' r).Nodup ∧ ∀ b ∈ F' r, ¬ I' b ∧ ¬ C.L b ∧ b < w'.heap.size ∧ (C.X b ∨ C.n ≤ b))
    (hdisj : ∀ r r' R R', r ≠ r' → look ρ r = some R → look ρ r' = some R' → ∀ b ∈ F' r, b ∉ F' r')
    (hsh : ∀ b, I' b → b < w'.heap.size ∧ (C.I b ∨ C.X b ∨ C.n ≤ b)) (hfr : ∀ b, b < C.n → ¬ C.X b → hpOf w' b = C.h b) : Inv C I' β F' { σ with r := ρ } w' tm where
  size := hi.size
  slots i := SVR.mono hI hL (fun r R _ hl => by obtain ⟨R', h1, h2⟩ := hkeep r R hl; exact ⟨R', h1, h2, rfl⟩) (hi.slots i)
  conds k e u v hm he := SVR.mono hI hL (fun r R _ hl => by obtain ⟨R', h1, h2⟩ := hkeep r R hl; exact ⟨R', h1, h2, rfl⟩) (hi.conds k e u v hm he)
  undefs := hi.undefs
  roots r R hl := (hroots r R hl).1
  nodup r R hl := (hroots r R hl).2.1
  disj r r' R R' hne h1 h2 := hdisj r r' R R' hne h1 h2
  own r R hl := (hroots r R hl).2.2
  shared := hsh
  sub b hb := (hI b (hi.sub b hb)).1
  frame := hfr
  grow := Nat.le_trans hi.grow hsz
  rest := hz.trans hi.rest

theorem upd_box {ρ : List (Nat × Root)} {k r : Nat} {t : Ty} {a b : den t} {l : Bool} {R : Root} (hk : look ρ k = some (.box l t b)) (hr : look ρ r = some R) : ∃ R', look (upd ρ k (.box false t a)) r = some R' ∧ R.like R' := by
  by_cases e : r = k
  · subst e
    rw [hk] at hr
    obtain rfl := Option.some.inj hr
    exact ⟨_, look_upd_same hk, rfl⟩
  · exact ⟨R, by rw [look_upd_ne e]; exact hr, Root.like.refl R⟩

theorem BoxR.upd {ρ : List (Nat × Root)} {ms : List Nat} {k : Nat} {R' : Root} : ∀ {ps : List (Bool × Ty)} {svs : List SV} {vs : List Value} {kss : List (List Nat)}, k ∉ kss.flatten → BoxR β ρ ms ps svs vs kss → BoxR β (upd ρ k R') ms ps svs vs kss
  | [], [], [], [], _, _ => trivial
  | (len, τ) :: ps, sv :: svs, v :: vs, ks :: kss, hk, ⟨h1, h2, h3⟩ => by
    simp only [List.flatten_cons, List.mem_append, not_or] at hk
    refine ⟨fun e u hu => ?_, h2, BoxR.upd hk.2 h3⟩
    obtain ⟨r, g1, g2, ⟨b, g3⟩, g4⟩ := h1 e u hu
    refine ⟨r, g1, g2, ⟨b, ?_⟩, g4⟩
    rw [look_upd_ne (by rintro rfl; exact hk.1 (by simp [g2]))]
    exact g3
  | [], [], [], _ :: _, _, h | [], [], _ :: _, _, _, h | [], _ :: _, _, _, _, h => h.elim
  | _ :: _, [], _, _, _, h | _ :: _, _ :: _, [], _, _, h | _ :: _, _ :: _, _ :: _, [], _, h => h.elim

/-- what outsV does -/
def OutsOk (h' : Hp) (L I' : Set') (β : Nat → Value) (ms : List Nat) (σ σ' : St) (kss : List (List Nat)) (Zs : List (List Nat)) : Prop :=
  ∃ zs : List (Nat × List Nat), zs.map (·.2) = Zs ∧ (∀ k ∈ kss.flatten, k ∈ zs.map (·.1) ∨ k ∈ ms) ∧ (∀ k ∈ zs.map (·.1), k ∈ kss.flatten) ∧ (zs.map (·.1)).Nodup ∧
    ∃ ρ', σ' = { σ with r := ρ' } ∧ (∀ r R', look ρ' r = some R' → (∃ Z, (r, Z) ∈ zs ∧ RootR h' L I' (β r) R' Z) ∨ (r ∉ zs.map (·.1) ∧ look σ.r r = some R')) ∧
      (∀ r R, look σ.r r = some R → ∃ R', look ρ' r = some R' ∧ R.like R')

theorem OutsOk.other {h' : Hp} {L I' : Set'} {ms ks : List Nat} {σ σ' : St} {kss : List (List Nat)} {Zs : List (List Nat)} (hm : ∀ k ∈ ks, k ∈ ms) (h : OutsOk h' L I' β ms σ σ' kss Zs) : OutsOk h' L I' β ms σ σ' (ks :: kss) Zs := by
  obtain ⟨zs, h1, h2, h3, h4, h5⟩ := h
  refine ⟨zs, h1, ?_, fun k hk => by simp only [List.flatten_cons, List.mem_append]; exact .inr (h3 k hk), h4, h5⟩
  intro k hk
  simp only [List.flatten_cons, List.mem_append] at hk
  rcases hk with hk | hk
  · exact .inr (hm k hk)
  · exact h2 k hk

theorem OutsOk.box {h' : Hp} {L I' : Set'} {ms : List Nat} {σ σ' : St} {kss : List (List Nat)} {Z : List Nat} {Zs : List (List Nat)} {r : Nat} {t : Ty} {a b : den t} (hl : look σ.r r = some (.box false t b)) (hr : r ∉ kss.flatten)
    (hR : Rep h' I' false (.ref true t) a [β r] Z) (h : OutsOk h' L I' β ms { σ with r := upd σ.r r (.box false t a) } σ' kss Zs) : OutsOk h' L I' β ms σ σ' ([r] :: kss) (Z :: Zs) := by
  obtain ⟨zs, h1, h2, h3, h4, ρ', h5, h6, h7⟩ := h
  have hnot : r ∉ zs.map (·.1) := fun hm => hr (h3 r hm)
  refine ⟨(r, Z) :: zs, by simp [h1], ?_, ?_, List.nodup_cons.2 ⟨hnot, h4⟩, ρ', h5, ?_, ?_⟩
  · intro k hk
    simp only [List.flatten_cons, List.mem_append, List.mem_singleton] at hk
    rcases hk with rfl | hk
    · exact .inl (by simp)
    · rcases h2 k hk with h | h
      · exact .inl (by simp only [List.map_cons, List.mem_cons]; exact .inr h)
      · exact .inr h
  · intro k hk
    simp only [List.map_cons, List.mem_cons] at hk
    simp only [List.flatten_cons, List.mem_append, List.mem_singleton]
    rcases hk with rfl | hk
    · exact .inl rfl
    · exact .inr (h3 k hk)
  · intro k R' hk
    rcases h6 k R' hk with ⟨Z', g1, g2⟩ | ⟨g1, g2⟩
    · exact .inl ⟨Z', by simp [g1], g2⟩
    · by_cases e : k = r
      · subst e
        simp only [look_upd_same hl, Option.some.injEq] at g2
        subst g2
        exact .inl ⟨Z, by simp, Rep.wide (fun b hb => .inl hb) hR⟩
      · simp only [look_upd_ne e] at g2
        refine .inr ⟨?_, g2⟩
        simp only [List.map_cons, List.mem_cons, not_or]
        exact ⟨e, g1⟩
  · intro k R hk
    obtain ⟨R1, e1, e2⟩ := upd_box (a := a) hl hk
    obtain ⟨R2, e3, e4⟩ := h7 k R1 e1
    refine ⟨R2, e3, ?_⟩
    cases R <;> cases R1 <;> cases R2 <;> simp only [Root.like] at e2 e4 ⊢ <;> first | exact e2.trans e4 | exact ⟨e2.1.trans e4.1, e2.2.trans e4.2⟩

theorem outs_ok {h' : Hp} {L I' : Set'} {ms : List Nat} : ∀ (ps : List (Bool × Ty)) {σ : St} {svs : List SV} {vs : List Value} {kss : List (List Nat)} {o : denL (outTys ps)} {Zs : List (List Nat)}, BoxR β σ.r ms ps svs vs kss → OutsR h' I' ps vs o Zs → kss.flatten.Nodup →
    OutsOk h' L I' β ms σ (outsV ps svs o σ) kss Zs
  | [], σ, [], [], [], o, Zs, _, hO, _ => by
    obtain rfl : Zs = [] := hO
    exact ⟨[], rfl, by simp, by simp, by simp, σ.r, rfl, fun r R' h => .inr ⟨by simp, h⟩, fun r R h => ⟨R, h, Root.like.refl R⟩⟩
  | (len, τ) :: ps, σ, sv :: svs, v :: vs, ks :: kss, o, Zs, ⟨h1, h2, h3⟩, hO, hn => by
    simp only [List.flatten_cons, List.nodup_append] at hn
    cases len with
    | true => exact OutsOk.other (h2 (by rintro ⟨h, _⟩; cases h)) (outs_ok ps h3 hO hn.2.1)
    | false =>
      cases τ with
      | ref own t =>
        cases own with
        | false => exact OutsOk.other (h2 (by rintro ⟨_, u, h⟩; cases h)) (outs_ok ps h3 hO hn.2.1)
        | true =>
          obtain ⟨r, rfl, rfl, ⟨b, hl⟩, rfl⟩ := h1 rfl t rfl
          obtain ⟨a, o⟩ := o
          cases Zs with
          | nil => exact hO.elim
          | cons Z Zs =>
            have hr : r ∉ kss.flatten := fun hm => hn.2.2 r (by simp) r hm rfl
            exact OutsOk.box hl hr hO.1 (outs_ok ps (BoxR.upd hr h3) hO.2 hn.2.1)
      | _ => exact OutsOk.other (h2 (by rintro ⟨_, u, h⟩; cases h)) (outs_ok ps h3 hO hn.2.1)
  | [], _, [], [], _ :: _, _, _, h, _, _ | [], _, [], _ :: _, _, _, _, h, _, _ | [], _, _ :: _, _, _, _, _, h, _, _ => h.elim
  | _ :: _, _, [], _, _, _, _, h, _, _ | _ :: _, _, _ :: _, [], _, _, _, h, _, _ | _ :: _, _, _ :: _, _ :: _, [], _, _, h, _, _ => h.elim

end
end Go.Proofs.Ytnffdeokhcojfaa.E

namespace Go.Proofs.Ytnffdeokhcojfaa.E
open Go
set_option linter.unusedSimpArgs false
set_option linter.unusedVariables false

def newF (F : Nat → List Nat) : List (Nat × List Nat) → Nat → List Nat
  | [], r => F r
  | (k, Z) :: l, r => if k = r then Z else newF F l r

theorem newF_not {F : Nat → List Nat} {r : Nat} : ∀ {zs : List (Nat × List Nat)}, r ∉ zs.map (·.1) → newF F zs r = F r
  | [], _ => rfl
  | (k, Z) :: l, h => by
    simp only [List.map_cons, List.mem_cons, not_or] at h
    rw [newF, if_neg (fun e => h.1 e.symm), newF_not h.2]

theorem newF_mem {F : Nat → List Nat} {r : Nat} {Z : List Nat} : ∀ {zs : List (Nat × List Nat)}, (zs.map (·.1)).Nodup → (r, Z) ∈ zs → newF F zs r = Z
  | (k, Z') :: l, hn, h => by
    simp only [List.map_cons, List.nodup_cons] at hn
    rcases List.mem_cons.1 h with h | h
    · simp only [Prod.mk.injEq] at h
      rw [newF, if_pos h.1.symm, h.2]
    · rw [newF, if_neg, newF_mem hn.2 h]
      rintro rfl
      exact hn.1 (List.mem_map.2 ⟨_, h, rfl⟩)

theorem zs_apart {r r' : Nat} {Z Z' : List Nat} : ∀ {zs : List (Nat × List Nat)}, ((zs.map (·.2)).flatten).Nodup → r ≠ r' → (r, Z) ∈ zs → (r', Z') ∈ zs → ∀ b ∈ Z, b ∉ Z'
  | (k, Y) :: l, hn, hne, h, h', b, hb, hb' => by
    simp only [List.map_cons, List.flatten_cons, List.nodup_append] at hn
    have inl : ∀ {j W}, (j, W) ∈ l → b ∈ W → b ∈ (l.map (·.2)).flatten := fun {j W} hm hw => List.mem_flatten.2 ⟨W, List.mem_map.2 ⟨_, hm, rfl⟩, hw⟩
    rcases List.mem_cons.1 h with h | h <;> rcases List.mem_cons.1 h' with h' | h'
    · simp only [Prod.mk.injEq] at h h'; exact hne (h.1.trans h'.1.symm)
    · simp only [Prod.mk.injEq] at h; exact hn.2.2 b (h.2 ▸ hb) b (inl h' hb') rfl
    · simp only [Prod.mk.injEq] at h'; exact hn.2.2 b (h'.2 ▸ hb') b (inl h hb) rfl
    · exact zs_apart hn.2.1 hne h h' b hb hb'

theorem flatF_nodup {F : Nat → List Nat} : ∀ {l : List Nat}, l.Nodup → (∀ r ∈ l, (F r).Nodup) → (∀ r ∈ l, ∀ r' ∈ l, r ≠ r' → ∀ b ∈ F r, b ∉ F r') → ((l.map F).flatten).Nodup
  | [], _, _, _ => by simp
  | k :: l, h1, h2, h3 => by
    simp only [List.nodup_cons] at h1
    simp only [List.map_cons, List.flatten_cons, List.nodup_append]
    refine ⟨h2 k (by simp), flatF_nodup h1.2 (fun r hr => h2 r (by simp [hr])) (fun r hr r' hr' => h3 r (by simp [hr]) r' (by simp [hr'])), ?_⟩
    rintro b hb c hc rfl
    obtain ⟨W, hW, hw⟩ := List.mem_flatten.1 hc
    obtain ⟨j, hj, rfl⟩ := List.mem_map.1 hW
    exact h3 k (by simp) j (by simp [hj]) (by rintro rfl; exact h1.1 hj) b hb hw

theorem nodup_of_flat : ∀ {l : List (List Nat)}, l.flatten.Nodup → ∀ Z ∈ l, Z.Nodup
  | [], _, Z, h => by simp at h
  | Y :: l, hn, Z, h => by
    simp only [List.flatten_cons, List.nodup_append] at hn
    rcases List.mem_cons.1 h with rfl | h
    · exact hn.1
    · exact nodup_of_flat hn.2.1 Z h

theorem flat_flat {F : Nat → List Nat} : ∀ kss : List (List Nat), (kss.map fun ks => (ks.map F).flatten).flatten = (kss.flatten.map F).flatten
  | [] => rfl
  | ks :: kss => by simp [flat_flat kss]

section
variable {C : Ctx} {I : Set'} {β : Nat → Value} {F : Nat → List Nat} {σ : St} {w : World} {tm : Array Value}

/-- behind a call -/
structure Called (C : Ctx) (I : Set') (β : Nat → Value) (σ' : St) (w : World) (tm : Array Value) (rs : List Ty) (q : denL rs) (v : Value) (w' : World) (I' : Set') (F' : Nat → List Nat) (vals : List Value) (Ys : List (List Nat)) : Prop where
  inv : Inv C I' β F' σ' w' tm
  sub : ∀ b, I b → I' b
  grow : w.heap.size ≤ w'.heap.size
  val : v = tupleV vals
  rets : RetsR (hpOf w') I' rs q vals Ys
  nodup : Ys.flatten.Nodup
  own : ∀ b ∈ Ys.flatten, ¬ I' b ∧ ¬ C.L b ∧ b < w'.heap.size ∧ (C.X b ∨ C.n ≤ b)
  apart : ∀ r R, look σ'.r r = some R → ∀ b ∈ Ys.flatten, b ∉ F' r

theorem call_ok (hi : Inv C I β F σ w tm) {ps : List (Bool × Ty)} {rs : List Ty} {f : FuncId} {svs : List SV} {vs : List Value} {a : denL (ps.map (·.2))} {q : denL rs} {o : denL (outTys ps)} {p : Pass}
    (hs : All2 (SVR (hpOf w) C.L I β σ.r) svs vs) (he : argsV ps svs ⟨σ, [], [], [], []⟩ = some (a, p)) (hap : apart p.owns p.lents = true) (hmb : apart p.moved p.boxes = true) (ht1 : there p.σ p.owns = true) (ht2 : there p.σ p.lents = true)
    (hH : Hold C.P C.T f ps rs a q o) :
    Calls C.P f vs.toArray w fun e w' => ∃ v, e = .returned v ∧ ∃ I' F' vals Ys, Called C I β (outsV ps svs o (killL p.moved p.σ)) w tm rs q v w' I' F' vals Ys ∧ (outsV ps svs o (killL p.moved p.σ)).n = σ.n := by
  obtain ⟨I1, kss, b1, b2, b3, b4, b5, b6, b7, b8, b9, b10, b11, b12, b13, b14⟩ := argsV_ok ps hi (hs.imp fun sv _ v h => fun _ => h) he
  simp only [List.append_nil] at b5
  obtain ⟨c1, c2⟩ := apart_iff hap
  obtain ⟨d1, d2⟩ := apart_iff hmb
  have hperm : (kss.reverse.flatten).Perm kss.flatten := (List.reverse_perm kss).flatten
  have hmem : ∀ r, r ∈ kss.flatten → r ∈ p.owns := fun r hr => by rw [b5]; exact hperm.mem_iff.2 hr
  have hkn : kss.flatten.Nodup := hperm.nodup_iff.1 (b5 ▸ c1)
  have hpres : ∀ r ∈ kss.flatten, ∃ R, look p.σ.r r = some R := fun r hr => there_iff ht1 r (hmem r hr)
  have hdis : ∀ r ∈ kss.flatten, ∀ r' R', look p.σ.r r' = some R' → r ≠ r' → ∀ b ∈ F r, b ∉ F r' := fun r hr r' R' hl hne => by
    obtain ⟨R, hR⟩ := hpres r hr
    exact b1.disj r r' R R' hne hR hl
  have hXmem : ∀ b, b ∈ (kss.map fun ks => (ks.map F).flatten).flatten ↔ ∃ r ∈ kss.flatten, b ∈ F r := by
    intro b
    rw [flat_flat]
    constructor
    · intro h
      obtain ⟨W, hW, hw⟩ := List.mem_flatten.1 h
      obtain ⟨j, hj, rfl⟩ := List.mem_map.1 hW
      exact ⟨j, hj, hw⟩
    · rintro ⟨r, hr, hb⟩
      exact List.mem_flatten.2 ⟨F r, List.mem_map.2 ⟨r, hr, rfl⟩, hb⟩
  have hXown : ∀ b, b ∈ (kss.map fun ks => (ks.map F).flatten).flatten → ¬ I1 b ∧ ¬ C.L b ∧ b < w.heap.size ∧ (C.X b ∨ C.n ≤ b) := by
    intro b hb
    obtain ⟨r, hr, hb⟩ := (hXmem b).1 hb
    obtain ⟨R, hR⟩ := hpres r hr
    exact b1.own r R hR b hb
  let C1 : Ctx := { P := C.P, T := C.T, h := hpOf w, n := w.heap.size, L := fun b => C.L b ∨ ∃ r ∈ p.lents, b ∈ F r, I := I1, X := fun b => b ∈ (kss.map fun ks => (ks.map F).flatten).flatten, z := restOf w
                    Iok := fun b hb => ⟨(b1.shared b hb).1, fun hX => (hXown b hX).1 hb⟩
                    Lok := fun b hb => by
                      rcases hb with hb | ⟨r, hr, hb⟩
                      · exact ⟨Nat.lt_of_lt_of_le (C.Lok b hb).1 b1.grow, fun hX => (hXown b hX).2.1 hb⟩
                      · obtain ⟨R, hR⟩ := there_iff ht2 r hr
                        refine ⟨(b1.own r R hR b hb).2.2.1, fun hX => ?_⟩
                        obtain ⟨k, hk, hb'⟩ := (hXmem b).1 hX
                        exact hdis k hk r R hR (by rintro rfl; exact c2 k (hmem k hk) hr) b hb' hb
                    ok := C.ok }
  have hArgs : ArgsR C1.h C1.L C1.I ps a vs (kss.map fun ks => (ks.map F).flatten) := b12 _ _ (fun b hb => .inl hb) (fun r hr b hb => .inr ⟨r, hr, hb⟩) (fun b hb => hb)
  have hXn : ((kss.map fun ks => (ks.map F).flatten).flatten).Nodup := by
    rw [flat_flat]
    refine flatF_nodup hkn (fun r hr => ?_) (fun r hr r' hr' hne => ?_)
    · obtain ⟨R, hR⟩ := hpres r hr; exact b1.nodup r R hR
    · obtain ⟨R', hR'⟩ := hpres r' hr'; exact hdis r hr r' R' hR' hne
  refine (hH C1 rfl rfl w vs _ rfl rfl rfl hArgs (fun b => Iff.rfl) hXn (fun b hb => (hXown b hb).2.2.1)).mono ?_
  rintro e w' ⟨v, I', vals, Ys, Zs, rfl, hB⟩
  refine ⟨v, rfl, ?_⟩
  have hbox : BoxR β (killL p.moved p.σ).r p.moved ps svs vs kss := b14 _ _ hpres (fun r hr => by rw [killL_look, if_neg (fun hm => d2 r hm hr)]) (fun _ h => h)
  obtain ⟨zs, z1, z2, z3, z4, ρ', z5, z6, z7⟩ := outs_ok (L := C.L) ps hbox hB.outs hkn
  have hk := b1.killL p.moved
  have hfrm : ∀ b, b < w.heap.size → b ∉ (kss.map fun ks => (ks.map F).flatten).flatten → hpOf w' b = hpOf w b := fun b h1 h2 => hB.frame b h1 h2
  have hnd := hB.nodup
  rw [List.nodup_append] at hnd
  -- a root that was not handed on
  have hrest : ∀ r R', r ∉ zs.map (·.1) → look (killL p.moved p.σ).r r = some R' → look p.σ.r r = some R' ∧ ∀ b ∈ F r, b ∉ (kss.map fun ks => (ks.map F).flatten).flatten := by
    intro r R' hr hl
    rw [killL_look] at hl
    by_cases hm : r ∈ p.moved
    · simp [hm] at hl
    · simp only [hm, if_false] at hl
      refine ⟨hl, fun b hb hX => ?_⟩
      obtain ⟨k, hk, hb'⟩ := (hXmem b).1 hX
      refine hdis k hk r R' hl ?_ b hb' hb
      rintro rfl
      rcases z2 k hk with h | h
      · exact hr h
      · exact hm h
  have hZown : ∀ r Z, (r, Z) ∈ zs → ∀ b ∈ Z, b ∈ Zs.flatten := fun r Z hm b hb => List.mem_flatten.2 ⟨Z, by rw [← z1]; exact List.mem_map.2 ⟨_, hm, rfl⟩, hb⟩
  have hlift : ∀ b, ¬ I' b ∧ ¬ C1.L b ∧ b < w'.heap.size ∧ (C1.X b ∨ C1.n ≤ b) → ¬ I' b ∧ ¬ C.L b ∧ b < w'.heap.size ∧ (C.X b ∨ C.n ≤ b) := by
    rintro b ⟨h1, h2, h3, h4⟩
    refine ⟨h1, fun h => h2 (.inl h), h3, ?_⟩
    rcases h4 with h4 | h4
    · exact (hXown b h4).2.2.2
    · exact .inr (Nat.le_trans b1.grow h4)
  have hold : ∀ r R', r ∉ zs.map (·.1) → look (killL p.moved p.σ).r r = some R' → ∀ b ∈ F r, ¬ I' b ∧ ¬ (b ∈ Ys.flatten ++ Zs.flatten) ∧ b < w.heap.size ∧ hpOf w' b = hpOf w b := by
    intro r R' hr hl b hb
    obtain ⟨g1, g2⟩ := hrest r R' hr hl
    have g3 := b1.own r R' g1 b hb
    refine ⟨fun hI => ?_, fun hm => ?_, g3.2.2.1, hfrm b g3.2.2.1 (g2 b hb)⟩
    · rcases (hB.shared b hI).2 with h | h | h
      · exact g3.1 h
      · exact g2 b hb h
      · have : w.heap.size ≤ b := h
        omega
    · rcases (hB.own b hm).2.2.2 with h | h
      · exact g2 b hb h
      · have : w.heap.size ≤ b := h
        omega
  refine ⟨I', newF F zs, vals, Ys, ⟨?_, fun b hb => hB.sub b (b2 b hb), hB.grow, hB.val, hB.rets, hnd.1, fun b hb => hlift b (hB.own b (by simp [hb])), ?_⟩, ?_⟩
  · rw [z5]
    refine hk.change hB.grow hB.rest (fun b hb => ⟨hB.sub b hb, hfrm b (b1.shared b hb).1 (fun hX => (hXown b hX).1 hb)⟩) (fun b hb => hfrm b (Nat.lt_of_lt_of_le (C.Lok b hb).1 b1.grow) (fun hX => (hXown b hX).2.1 hb)) z7 ?_ ?_ ?_ ?_
    · intro r R hl
      rcases z6 r R hl with ⟨Z, g1, g2⟩ | ⟨g1, g2⟩
      · rw [newF_mem z4 g1]
        refine ⟨g2, ?_, fun b hb => hlift b (hB.own b (by simp only [List.mem_append]; exact .inr (hZown r Z g1 b hb)))⟩
        have : Zs.flatten.Nodup := hnd.2.1
        rw [← z1] at this
        exact nodup_of_flat this Z (List.mem_map.2 ⟨_, g1, rfl⟩)
      · rw [newF_not g1]
        obtain ⟨k1, k2⟩ := hrest r R g1 g2
        have hR := b1.roots r R k1
        refine ⟨?_, b1.nodup r R k1, fun b hb => ?_⟩
        · have hI : ∀ b, I1 b → I' b ∧ hpOf w' b = hpOf w b := fun b hb => ⟨hB.sub b hb, hfrm b (b1.shared b hb).1 (fun hX => (hXown b hX).1 hb)⟩
          have hL : ∀ b, C.L b → hpOf w' b = hpOf w b := fun b hb => hfrm b (Nat.lt_of_lt_of_le (C.Lok b hb).1 b1.grow) (fun hX => (hXown b hX).2.1 hb)
          cases R with
          | box l t x => exact Rep.keep (Sx.mono hI hL l) (fun b hb => (hold r _ g1 g2 b hb).2.2.2) hR
          | arr l t x => exact Rep.keep (Sx.mono hI hL l) (fun b hb => (hold r _ g1 g2 b hb).2.2.2) hR
        · have := b1.own r R k1 b hb
          have h2 := hold r R g1 g2 b hb
          exact ⟨h2.1, this.2.1, Nat.lt_of_lt_of_le h2.2.2.1 hB.grow, this.2.2.2⟩
    · intro r r' R R' hne hl hl' b hb
      rcases z6 r R hl with ⟨Z, g1, _⟩ | ⟨g1, g2⟩ <;> rcases z6 r' R' hl' with ⟨Z', g1', _⟩ | ⟨g1', g2'⟩
      · rw [newF_mem z4 g1] at hb
        rw [newF_mem z4 g1']
        have : Zs.flatten.Nodup := hnd.2.1
        rw [← z1] at this
        exact zs_apart this hne g1 g1' b hb
      · rw [newF_mem z4 g1] at hb
        rw [newF_not g1']
        intro hb'
        exact (hold r' R' g1' g2' b hb').2.1 (by simp only [List.mem_append]; exact .inr (hZown r Z g1 b hb))
      · rw [newF_not g1] at hb
        rw [newF_mem z4 g1']
        intro hb'
        exact (hold r R g1 g2 b hb).2.1 (by simp only [List.mem_append]; exact .inr (hZown r' Z' g1' b hb'))
      · rw [newF_not g1] at hb
        rw [newF_not g1']
        exact b1.disj r r' R R' hne (hrest r R g1 g2).1 (hrest r' R' g1' g2').1 b hb
    · intro b hb
      obtain ⟨h1, h2⟩ := hB.shared b hb
      refine ⟨h1, ?_⟩
      rcases h2 with h2 | h2 | h2
      · exact (b1.shared b h2).2
      · exact .inr (hXown b h2).2.2.2
      · exact .inr (.inr (Nat.le_trans b1.grow h2))
    · intro b hb hX
      rw [hfrm b (Nat.lt_of_lt_of_le hb b1.grow) (fun hm => ?_)]
      · exact b1.frame b hb hX
      · rcases (hXown b hm).2.2.2 with h | h
        · exact hX h
        · omega
  · intro r R hl b hb
    rw [z5] at hl
    rcases z6 r R hl with ⟨Z, g1, _⟩ | ⟨g1, g2⟩
    · rw [newF_mem z4 g1]
      exact fun hb' => hnd.2.2 b hb b (hZown r Z g1 b hb') rfl
    · rw [newF_not g1]
      exact fun hb' => (hold r R g1 g2 b hb').2.1 (by simp [hb])
  · rw [z5]
    show (killL p.moved p.σ).n = σ.n
    rw [killL_n]; exact b13

end
end Go.Proofs.Ytnffdeokhcojfaa.E
