/- A plain evaluator of the program's form on data by value, and the proof that it is sound. No condition. -/
import Derived.Test.YthlpjdjipchdkaaDoorRegsLatestGA
import Derived.Calls
import Derived.Laws.AppendOwn
import Derived.Laws.Strings
import Derived.Laws.StructEq
import Derived.Laws.MakeOwn
import Derived.Laws.BytesArg
import Derived.Lib.ConvBytes
import Derived.Laws.Tables
import Derived.Laws.NewFold
import Derived.WideKeyRuns
import Derived.MapKept
import Derived.Orders
import Derived.ProofKit
import Derived.SizedLaws
import Derived.Lib.AppendZerosOnto
import Derived.Lib.Overlaps
import Derived.Laws.Externs
import Derived.Laws.IdiomCopy
import Derived.Deep.AppendSrc
import Derived.Shelf.RegionOpenPlain
import Derived.WalkKit
import Derived.Lib.Walk
import Derived.Lib.SliceRun
import Derived.Lib.JoinLaws
import Derived.Lib.Bytealg

namespace Go.Proofs.YthlpjdjipchdkaaDoor.E
open Go
set_option linter.unusedSimpArgs false
set_option linter.unusedVariables false
section
variable {C : Ctx} {I : Set'} {β : Nat → Value} {F : Nat → List Nat} {σ : St} {w : World} {tm : Array Value}
theorem eqGuard_int (op : BinOp) (t : TypeId) (x y : Operand) (k j : IntKind) (a b : Int) : (eqGuard op t x y (.int k a) (.int j b)).run C.P w = .ok () w := by
  unfold eqGuard; split <;> simp
theorem eqGuard_str (op : BinOp) (t : TypeId) (x y : Operand) (a b : ByteArray) : (eqGuard op t x y (.string a) (.string b)).run C.P w = .ok () w := by
  unfold eqGuard; split <;> simp
theorem eqGuard_bool (op : BinOp) (t : TypeId) (x y : Operand) (a b : Bool) : (eqGuard op t x y (.bool a) (.bool b)).run C.P w = .ok () w := by
  unfold eqGuard; split <;> simp
theorem eqGuard_ptr (op : BinOp) (t : TypeId) (x y : Operand) (a b : Option Addr) : (eqGuard op t x y (.pointer a) (.pointer b)).run C.P w = .ok () w := by
  unfold eqGuard; split <;> simp
theorem equal_bool {t : TypeId} (hu : C.P.underlying t = some .bool) (a b : Bool) : (Op.equal t (.bool a) (.bool b)).run C.P w = .ok (a == b) w := by
  unfold Op.equal Op.maxDepth
  rw [show (10000 : Nat) = 9999 + 1 from rfl, Op.equalIn]
  simp [Sem.run_bind, run_underlying hu w]
theorem equal_ptr_nil {t e : TypeId} (hu : C.P.underlying t = some (.pointer e)) (a : Addr) : (Op.equal t (.pointer (some a)) (.pointer none)).run C.P w = .ok false w := by
  unfold Op.equal Op.maxDepth
  rw [show (10000 : Nat) = 9999 + 1 from rfl, Op.equalIn]
  simp [Sem.run_bind, run_underlying hu w]
theorem of_np {h L I β ρ v} (hs : SVR h L I β ρ .np v) : v = .pointer none := hs
theorem q_val {h : Hp} {L I : Set'} {β : Nat → Value} {ρ : List (Nat × Root)} {l : Bool} {t : Ty} {a : den t} {v : Value} (hs : SVR h L I β ρ (.q l t a) v) :
    ∃ b o arr E fr, v = .pointer (some ⟨b, o, none⟩) ∧ Sx L I l b ∧ h b = some (.cells arr E fr) ∧ o + t.size ≤ arr.size ∧ Rep h (Sx L I l) true t a ((arr.toList.drop o).take t.size) [] := by
  obtain ⟨b, o, arr, E, fr, X', e1, e2, e3, e4, e5⟩ := hs
  simp only [Bool.not_true, Bool.and_false, Bool.false_eq_true, if_false] at e5
  obtain ⟨e5, _, rfl⟩ := e5
  simp only [List.cons.injEq, and_true] at e1
  exact ⟨b, o, arr, E, fr, e1, e5, e2, e3, e4⟩
theorem part_run {t : TypeId} {τ : Ty} (hf : fits C.T t τ = true) {h : Hp} {S : Set'} {l : Bool} {x : den τ} {X : List Nat} {cs : List Value} {o : Nat} (hn : o + τ.size ≤ cs.length) (hr : Rep h S l τ x ((cs.drop o).take τ.size) X) (w : World) :
    (part t cs.toArray o).run C.P w = .ok (wrapV τ ((cs.drop o).take τ.size)) w := by
  simp only [fits, Bool.and_eq_true] at hf
  unfold part
  rw [Sem.run_bind, run_agg hf.2]
  simp only [Result.andThen_ok]
  cases ha : τ.isAgg with
  | true =>
    simp only [if_true, Sem.run_bind, run_size hf.1, Result.andThen_ok, Sem.run_pure, wrapV, ha]
    congr 2
    apply Array.toList_inj.1
    simp [Array.toList_extract, List.extract_eq_take_drop]
  | false =>
    have h1 : τ.size = 1 := by rw [← hr.len]; exact hr.raw1 ha
    have hlt : o < cs.length := by omega
    have hd : (cs.drop o).take 1 = [cs[o]] := by
      rw [List.take_one]
      simp [List.head?_drop, hlt]
    simp [hlt, wrapV, ha, h1, hd]
theorem eqB_ok {t : TypeId} (h : eqB C.T t = true) : C.P.stoodInHeld t = false ∧ C.P.eqGuardType C.P.depth t = false := by
  unfold eqB at h
  cases e : C.T t with
  | none => simp [e] at h
  | some i => simp only [e] at h; exact C.eqs t i e h
theorem fieldsOf_eq {t : TypeId} {fs : Array Field} (h : C.P.underlying t = some (.struct fs)) : C.P.fieldsOf t = fs := by simp [Program.fieldsOf, h]
theorem eqFields_ok {h h' : Hp} {S S' : Set'} {l l' : Bool} {n d : Nat} (hq : ∀ (t : TypeId) (τ : Ty) (x y : den τ) (cs ds : List Value) (X Y : List Nat), eqOk C.T n t τ = true → Rep h S l τ x cs X → Rep h' S' l' τ y ds Y →
      (Op.equalIn d t (wrapV τ cs) (wrapV τ ds)).run C.P w = .ok (denEq τ x y) w) :
    ∀ (fs : List Field) (o : Nat) (τ : Ty) (x y : den τ) (cs ds : List Value) (X Y : List Nat), eqOkF C.T (eqOk C.T n) fs o τ = true → Rep h S l τ x (cs.drop o) X → Rep h' S' l' τ y (ds.drop o) Y → o ≤ cs.length → o ≤ ds.length →
      (Op.eqFields d cs.toArray ds.toArray fs).run C.P w = .ok (denEq τ x y) w
  | [], o, τ, x, y, cs, ds, X, Y, he, _, _, _, _ => by
    cases τ <;> simp [eqOkF] at he
    simp [Op.eqFields, denEq]
  | f :: fs, o, τ, x, y, cs, ds, X, Y, he, hx, hy, hox, hoy => by
    cases τ with
    | pair a b =>
      simp only [eqOkF, Bool.and_eq_true, Bool.not_eq_true'] at he
      obtain ⟨⟨⟨⟨⟨he1, he2⟩, he3⟩, he4⟩, he5⟩, he6⟩ := he
      obtain ⟨c1, c2, X1, X2, e1, e2, e3, e4⟩ := hx
      obtain ⟨d1, d2, Y1, Y2, f1, f2, f3, f4⟩ := hy
      have ho := Nat.eq_of_beq_eq_true he1
      have hc1 := e3.len
      have hd1 := f3.len
      have hlc : cs.length = o + c1.length + c2.length := by have := congrArg List.length e1; simp at this; omega
      have hld : ds.length = o + d1.length + d2.length := by have := congrArg List.length f1; simp at this; omega
      have hfit : fits C.T f.type a = true := by simp [fits, he2, he3]
      have hcc : (cs.drop o).take a.size = c1 := by rw [e1, ← hc1]; simp
      have hdd : (ds.drop o).take a.size = d1 := by rw [f1, ← hd1]; simp
      have hcc2 : cs.drop (o + a.size) = c2 := by rw [← List.drop_drop, e1, ← hc1]; simp
      have hdd2 : ds.drop (o + a.size) = d2 := by rw [← List.drop_drop, f1, ← hd1]; simp
      have hne : f.name ≠ "_" := by simpa using he5
      have r1 := part_run (C := C) hfit (x := x.1) (X := X1) (h := h) (S := S) (l := l) (cs := cs) (o := o) (by omega) (by rw [hcc]; exact e3) w
      have r2 := part_run (C := C) hfit (x := y.1) (X := Y1) (h := h') (S := S') (l := l') (cs := ds) (o := o) (by omega) (by rw [hdd]; exact f3) w
      rw [hcc] at r1
      rw [hdd] at r2
      have r3 := hq f.type a x.1 y.1 c1 d1 X1 Y1 he4 e3 f3
      have ih := eqFields_ok hq fs (o + a.size) b x.2 y.2 cs ds X2 Y2 he6 (by rw [hcc2]; exact e4) (by rw [hdd2]; exact f4) (by omega) (by omega)
      simp only [Op.eqFields, ne_eq, hne, not_false_eq_true, if_true, Sem.run_bind, ho, r1, r2, r3, Result.andThen_ok, denEq]
      cases hde : denEq a x.1 y.1 with
      | true => simp [ih]
      | false => simp
    | _ => simp [eqOkF] at he
theorem equalIn_ok {h h' : Hp} {S S' : Set'} {l l' : Bool} : ∀ (n d : Nat), n ≤ d → ∀ (t : TypeId) (τ : Ty) (x y : den τ) (cs ds : List Value) (X Y : List Nat), eqOk C.T n t τ = true → Rep h S l τ x cs X → Rep h' S' l' τ y ds Y →
    (Op.equalIn d t (wrapV τ cs) (wrapV τ ds)).run C.P w = .ok (denEq τ x y) w
  | 0, d, _, t, τ, x, y, cs, ds, X, Y, he, _, _ => by simp [eqOk] at he
  | n + 1, d, hd, t, τ, x, y, cs, ds, X, Y, he, hx, hy => by
    obtain ⟨d, rfl⟩ : ∃ d', d = d' + 1 := ⟨d - 1, by omega⟩
    cases τ with
    | int k =>
      simp only [eqOk] at he
      split at he
      · rename_i j hu
        obtain ⟨rfl, _⟩ := hx
        obtain ⟨rfl, _⟩ := hy
        change Int at x
        change Int at y
        have : wrapV (.int k) [Value.int k x] = .int k x := rfl
        rw [this, show wrapV (.int k) [Value.int k y] = .int k y from rfl, run_equalIn_int w d t k j x y (und_ok hu)]
        simp only [denEq]
        rfl
      · simp at he
    | bool =>
      simp only [eqOk] at he
      split at he
      · rename_i hu
        obtain ⟨rfl, _⟩ := hx
        obtain ⟨rfl, _⟩ := hy
        change Bool at x
        change Bool at y
        rw [show wrapV .bool [Value.bool x] = .bool x from rfl, show wrapV .bool [Value.bool y] = .bool y from rfl, run_equalIn_bool' w d t x y (und_ok hu)]
        simp only [denEq]
        cases x <;> cases y <;> rfl
      · simp at he
    | str =>
      simp only [eqOk] at he
      split at he
      · rename_i hu
        obtain ⟨rfl, _⟩ := hx
        obtain ⟨rfl, _⟩ := hy
        change List UInt8 at x
        change List UInt8 at y
        rw [show wrapV .str [Value.string ⟨⟨x⟩⟩] = .string ⟨⟨x⟩⟩ from rfl, show wrapV .str [Value.string ⟨⟨y⟩⟩] = .string ⟨⟨y⟩⟩ from rfl, run_equalIn_string w d t _ _ (und_ok hu), ba_list, ba_list]
        simp only [denEq]
      · simp at he
    | unit =>
      simp only [eqOk] at he
      split at he
      · rename_i fs hu
        simp only [Bool.and_eq_true] at he
        have hu' := und_ok hu
        have hfo := fieldsOf_eq hu'
        rw [show wrapV .unit cs = .agg cs.toArray from rfl, show wrapV .unit ds = .agg ds.toArray from rfl, run_equalIn_struct w d t _ _ (by rw [hfo]; exact hu') (eqB_ok he.1).1, hfo]
        exact eqFields_ok (fun t τ x y cs ds X Y h1 h2 h3 => equalIn_ok n d (by omega) t τ x y cs ds X Y h1 h2 h3) fs.toList 0 .unit x y cs ds X Y he.2 (by simpa using hx) (by simpa using hy) (by omega) (by omega)
      · simp at he
    | pair a b =>
      simp only [eqOk] at he
      split at he
      · rename_i fs hu
        simp only [Bool.and_eq_true] at he
        have hu' := und_ok hu
        have hfo := fieldsOf_eq hu'
        rw [show wrapV (.pair a b) cs = .agg cs.toArray from rfl, show wrapV (.pair a b) ds = .agg ds.toArray from rfl, run_equalIn_struct w d t _ _ (by rw [hfo]; exact hu') (eqB_ok he.1).1, hfo]
        exact eqFields_ok (fun t τ x y cs ds X Y h1 h2 h3 => equalIn_ok n d (by omega) t τ x y cs ds X Y h1 h2 h3) fs.toList 0 (.pair a b) x y cs ds X Y he.2 (by simpa using hx) (by simpa using hy) (by omega) (by omega)
      · simp at he
    | _ => simp [eqOk] at he
theorem equal_pair {h h' : Hp} {S S' : Set'} {l l' : Bool} {t : TypeId} {τ : Ty} {x y : den τ} {cs ds : List Value} {X Y : List Nat} (he : eqOk C.T 20 t τ = true) (hx : Rep h S l τ x cs X) (hy : Rep h' S' l' τ y ds Y) :
    (Op.equal t (wrapV τ cs) (wrapV τ ds)).run C.P w = .ok (denEq τ x y) w := by
  unfold Op.equal Op.maxDepth
  exact equalIn_ok 20 10000 (by omega) t τ x y cs ds X Y he hx hy
theorem equal_ptr_same {t e : TypeId} {i : TypeInfo} (hu : C.P.underlying t = some (.pointer e)) (hi : C.P.info? e = some i) (a : Addr) : (Op.equal t (.pointer (some a)) (.pointer (some a))).run C.P w = .ok true w := by
  unfold Op.equal Op.maxDepth
  rw [show (10000 : Nat) = 9999 + 1 from rfl, Op.equalIn]
  have hs : (sizeOf e).run C.P w = .ok i.size w := by simp [sizeOf, typeInfo, hi]
  simp only [Sem.run_bind, run_underlying hu w, Result.andThen_ok, hs]
  by_cases h0 : i.size = 0
  · simp [h0]
  · simp [h0, sameAddr]
theorem equal_nil_nil {t e : TypeId} (hu : C.P.underlying t = some (.pointer e)) : (Op.equal t (.pointer none) (.pointer none)).run C.P w = .ok true w := by
  unfold Op.equal Op.maxDepth
  rw [show (10000 : Nat) = 9999 + 1 from rfl, Op.equalIn]
  simp [Sem.run_bind, run_underlying hu w]
theorem opBin_ok (hi : Inv C I β F σ w tm) {op : BinOp} {t : TypeId} {a b sv : SV} {σ' : St} {va vb : Value} (x y : Operand)
    (ha : SVR (hpOf w) C.L I β σ.r a va) (hb : SVR (hpOf w) C.L I β σ.r b vb) (he : opBin C.T op t a b σ = some (true, sv, σ')) :
    After0 C I β σ σ' w sv ((do eqGuard op t x y va vb; binOp op t va vb : Sem Value).run C.P w) := by
  unfold opBin at he
  split at he
  · rename_i l k n l' j m
    obtain rfl := of_int ha
    obtain rfl := of_int hb
    cases hk : (isShift op || kindEq k j) with
    | false => simp [hk] at he
    | true =>
      simp only [hk] at he
      cases hq : bin op k n m with
      | none => simp [hq] at he
      | some q =>
        obtain ⟨c, s⟩ := q
        simp [hq] at he
        obtain ⟨rfl, rfl, rfl⟩ := he
        obtain ⟨v, h1, h2⟩ := bin_ok (C := C) (h := hpOf w) (L := C.L) (I := I) (β := β) (ρ := σ.r) hk hq t w
        rw [Sem.run_bind, eqGuard_int]
        simp only [Result.andThen_ok, h1]
        exact hi.after0 h2
  · rename_i l n l' m
    obtain rfl := of_str ha
    obtain rfl := of_str hb
    cases hq : binStr op n m with
    | none => simp [hq] at he
    | some q =>
      obtain ⟨c, s⟩ := q
      simp [hq] at he
      obtain ⟨rfl, rfl, rfl⟩ := he
      obtain ⟨v, h1, h2⟩ := binStr_ok (C := C) (h := hpOf w) (L := C.L) (I := I) (β := β) (ρ := σ.r) hq t w
      rw [Sem.run_bind, eqGuard_str]
      simp only [Result.andThen_ok, h1]
      exact hi.after0 h2
  · rename_i l n l' m
    obtain rfl := of_bool ha
    obtain rfl := of_bool hb
    rw [Sem.run_bind, eqGuard_bool]
    simp only [Result.andThen_ok]
    split at he
    · rename_i hu
      simp at he
      obtain ⟨rfl, rfl⟩ := he
      simp only [binOp, Sem.run_bind, equal_bool (und_ok hu), Result.andThen_ok]
      exact hi.after0 svr_bool
    · rename_i hu
      simp at he
      obtain ⟨rfl, rfl⟩ := he
      simp only [binOp, Sem.run_bind, equal_bool (und_ok hu), Result.andThen_ok]
      exact hi.after0 svr_bool
    · simp at he
  · rename_i l p q n l' u m
    cases hc : cast? (t := u) (.pair p q) m with
    | none => simp [hc] at he
    | some m' =>
      simp only [hc] at he
      obtain ⟨rfl, hm⟩ := cast?_some hc
      have := eq_of_heq hm
      subst this
      obtain ⟨cs, g1, g2, _⟩ := ha
      obtain ⟨ds, g3, g4, _⟩ := hb
      subst g2; subst g4
      have hw : ∀ cs, wrapV (.pair p q) cs = .agg cs.toArray := fun _ => rfl
      have key : ∀ {c : Bool}, (eqTy (.pair p q) && eqOk C.T 20 t (.pair p q)) = true → (eqGuard op t x y (.agg cs.toArray) (.agg ds.toArray)).run C.P w = .ok () w ∧ (Op.equal t (.agg cs.toArray) (.agg ds.toArray)).run C.P w = .ok (denEq (.pair p q) n m) w := by
        intro c hcc
        simp only [Bool.and_eq_true] at hcc
        refine ⟨?_, equal_pair hcc.2 g1 g3⟩
        have h20 := hcc.2
        simp only [eqOk] at h20
        split at h20
        · simp only [Bool.and_eq_true] at h20
          exact run_eqGuard_agg w op t x y _ _ (eqB_ok h20.1).2
        · simp at h20
      split at he
      · rename_i hcc
        obtain ⟨k1, k2⟩ := key (c := true) hcc
        simp only [Option.some.injEq, Prod.mk.injEq, true_and] at he
        obtain ⟨rfl, rfl⟩ := he
        simp only [hw, Sem.run_bind, k1, Result.andThen_ok, binOp, k2]
        exact hi.after0 svr_bool
      · rename_i hcc
        obtain ⟨k1, k2⟩ := key (c := true) hcc
        simp only [Option.some.injEq, Prod.mk.injEq, true_and] at he
        obtain ⟨rfl, rfl⟩ := he
        simp only [hw, Sem.run_bind, k1, Result.andThen_ok, binOp, k2]
        exact hi.after0 svr_bool
      · simp at he
  · rename_i r s
    obtain rfl := of_np hb
    obtain ⟨R, o, u, b, base, arr, E', fr, h1, h2, h3, rfl, h5, _⟩ := place hi ha
    rw [Sem.run_bind, eqGuard_ptr]
    simp only [Result.andThen_ok]
    split at he
    · rename_i hu
      simp at he
      obtain ⟨rfl, rfl⟩ := he
      simp only [binOp, Sem.run_bind, equal_ptr_nil (und_ok hu), Result.andThen_ok]
      exact hi.after0 svr_bool
    · rename_i hu
      simp at he
      obtain ⟨rfl, rfl⟩ := he
      simp only [binOp, Sem.run_bind, equal_ptr_nil (und_ok hu), Result.andThen_ok]
      exact hi.after0 svr_bool
    · simp at he
  · rename_i l τ a
    obtain rfl := of_np hb
    obtain ⟨b, o, arr, E', fr, rfl, _⟩ := q_val ha
    rw [Sem.run_bind, eqGuard_ptr]
    simp only [Result.andThen_ok]
    split at he
    · rename_i hu
      simp at he
      obtain ⟨rfl, rfl⟩ := he
      simp only [binOp, Sem.run_bind, equal_ptr_nil (und_ok hu), Result.andThen_ok]
      exact hi.after0 svr_bool
    · rename_i hu
      simp at he
      obtain ⟨rfl, rfl⟩ := he
      simp only [binOp, Sem.run_bind, equal_ptr_nil (und_ok hu), Result.andThen_ok]
      exact hi.after0 svr_bool
    · simp at he
  · rename_i r k
    obtain ⟨R, o, u, b, base, arr, E', fr, h1, h2, h3, h4, h5, _⟩ := place hi ha
    have hrk : ∀ {z : Bool}, (Nat.beq r k && ptrB C.T t) = true → vb = va ∧ ∃ e i, C.P.underlying t = some (.pointer e) ∧ C.P.info? e = some i := by
      intro z hz
      simp only [Bool.and_eq_true] at hz
      obtain rfl := Nat.eq_of_beq_eq_true hz.1
      obtain ⟨R1, o1, u1, k1, k2, k3, k4⟩ := ha
      obtain ⟨R2, o2, u2, l1, l2, l3, l4⟩ := hb
      rw [k1] at l1
      obtain rfl := Option.some.inj l1
      rw [k2] at l2
      simp only [Option.some.injEq, Prod.mk.injEq] at l2
      obtain ⟨rfl, _⟩ := l2
      refine ⟨l4.trans k4.symm, ?_⟩
      have := hz.2
      unfold ptrB at this
      split at this
      · rename_i e hu
        cases hTe : C.T e with
        | none => simp [hTe] at this
        | some i =>
          obtain ⟨j, z, g1, _⟩ := (C.ok e i hTe).2
          exact ⟨e, j, und_ok hu, g1⟩
      · simp at this
    split at he
    · rename_i hz
      obtain ⟨rfl, e, i, hu, hinf⟩ := hrk (z := true) hz
      subst h4
      rw [Sem.run_bind, eqGuard_ptr]
      simp only [Result.andThen_ok]
      simp at he
      obtain ⟨rfl, rfl⟩ := he
      simp only [binOp, Sem.run_bind, equal_ptr_same hu hinf, Result.andThen_ok]
      exact hi.after0 svr_bool
    · rename_i hz
      obtain ⟨rfl, e, i, hu, hinf⟩ := hrk (z := true) hz
      subst h4
      rw [Sem.run_bind, eqGuard_ptr]
      simp only [Result.andThen_ok]
      simp at he
      obtain ⟨rfl, rfl⟩ := he
      simp only [binOp, Sem.run_bind, equal_ptr_same hu hinf, Result.andThen_ok]
      exact hi.after0 svr_bool
    · simp at he
  · obtain rfl := of_np ha
    obtain rfl := of_np hb
    rw [Sem.run_bind, eqGuard_ptr]
    simp only [Result.andThen_ok]
    split at he
    · rename_i hu
      simp at he
      obtain ⟨rfl, rfl⟩ := he
      simp only [binOp, Sem.run_bind, equal_nil_nil (und_ok hu), Result.andThen_ok]
      exact hi.after0 svr_bool
    · rename_i hu
      simp at he
      obtain ⟨rfl, rfl⟩ := he
      simp only [binOp, Sem.run_bind, equal_nil_nil (und_ok hu), Result.andThen_ok]
      exact hi.after0 svr_bool
    · simp at he
  · simp at he
theorem opUn_ok (hi : Inv C I β F σ w tm) {op : UnOp} {a sv : SV} {σ' : St} {va : Value}
    (ha : SVR (hpOf w) C.L I β σ.r a va) (he : opUn op a σ = some (true, sv, σ')) : After0 C I β σ σ' w sv ((Op.unary op va).run C.P w) := by
  unfold opUn at he
  split at he
  · obtain rfl := of_bool ha
    simp at he
    obtain ⟨rfl, rfl⟩ := he
    exact hi.after0 svr_bool
  · obtain rfl := of_int ha
    simp only [Option.some.injEq, Prod.mk.injEq, true_and] at he
    obtain ⟨rfl, rfl⟩ := he
    exact hi.after0 svr_int
  · obtain rfl := of_int ha
    simp only [Option.some.injEq, Prod.mk.injEq, true_and] at he
    obtain ⟨rfl, rfl⟩ := he
    exact hi.after0 svr_int
  · simp at he
theorem plain_rep {h : Hp} {l l' : Bool} : ∀ {t : Ty} {x : den t} {cs : List Value} {X : List Nat}, t.plain = true → ∀ {S S' : Set'}, Rep h S l t x cs X → Rep h S' l' t x cs X
  | .int _, _, _, _, _, _, _, hr | .bool, _, _, _, _, _, _, hr | .str, _, _, _, _, _, _, hr | .unit, _, _, _, _, _, _, hr | .raw _ _, _, _, _, _, _, _, hr | .nils, _, _, _, _, _, _, hr | .nilp, _, _, _, _, _, _, hr => hr
  | .pair a b, _, _, _, hp, S, S', ⟨c1, c2, X1, X2, h1, h2, h3, h4⟩ => by
    simp only [Ty.plain, Bool.and_eq_true] at hp
    exact ⟨c1, c2, X1, X2, h1, h2, plain_rep hp.1 h3, plain_rep hp.2 h4⟩
  | .arr n t, _, _, _, hp, S, S', ⟨h1, h2⟩ => ⟨h1, RL.mono (fun _ _ _ hr => plain_rep (t := t) hp hr) h2⟩
theorem bare_rep {h : Hp} {l l' : Bool} : ∀ {t : Ty} {x : den t} {cs : List Value} {X : List Nat}, t.bare = true → ∀ {S S' : Set'}, Rep h S l t x cs X → Rep h S' l' t x cs X
  | .hole _, _, _, _, _, _, _, hr => hr
  | .pair a b, _, _, _, hp, S, S', ⟨c1, c2, X1, X2, h1, h2, h3, h4⟩ => by
    simp only [Ty.bare, Bool.and_eq_true] at hp
    exact ⟨c1, c2, X1, X2, h1, h2, bare_rep hp.1 h3, bare_rep hp.2 h4⟩
  | .int _, _, _, _, hp, _, _, hr | .bool, _, _, _, hp, _, _, hr | .str, _, _, _, hp, _, _, hr | .unit, _, _, _, hp, _, _, hr | .arr _ _, _, _, _, hp, _, _, hr | .sl _ _, _, _, _, hp, _, _, hr | .ptr _ _, _, _, _, hp, _, _, hr
  | .ref _ _, _, _, _, hp, _, _, hr | .map _ _ _, _, _, _, hp, _, _, hr | .raw _ _, _, _, _, hp, _, _, hr | .nils, _, _, _, hp, _, _, hr | .nilp, _, _, _, hp, _, _, hr => plain_rep hp hr
theorem mkv_ok {h : Hp} {L I : Set'} {β : Nat → Value} {ρ : List (Nat × Root)} {l : Bool} {t : Ty} {a : den t} {cs : List Value} (hr : Rep h (Sx L I l) true t a cs []) (hh : Holes β ρ t cs) : SVR h L I β ρ (mkv l t a) (wrapV t cs) := by
  unfold mkv
  cases hp : t.bare with
  | false => simp only [Bool.not_false, Bool.and_true]; exact ⟨cs, hr, rfl, hh⟩
  | true =>
    simp only [Bool.not_true, Bool.and_false]
    exact ⟨cs, bare_rep hp hr, rfl, hh⟩
theorem calm_rep {h : Hp} {S : Set'} {l : Bool} : ∀ {t : Ty} {x : den t} {cs : List Value} {X : List Nat}, calmT t = true → Rep h S l t x cs X → X = [] ∧ Rep h S true t x cs []
  | .hole _, _, _, _, _, hr => ⟨hr.2, hr.1, rfl⟩
  | .pair a b, _, _, _, hf, ⟨c1, c2, X1, X2, h1, h2, h3, h4⟩ => by
    simp only [calmT, Bool.and_eq_true] at hf
    obtain ⟨e1, r1⟩ := calm_rep hf.1 h3
    obtain ⟨e2, r2⟩ := calm_rep hf.2 h4
    exact ⟨by rw [h2, e1, e2]; rfl, c1, c2, [], [], h1, rfl, r1, r2⟩
  | .int _, _, _, _, hf, hr | .bool, _, _, _, hf, hr | .str, _, _, _, hf, hr | .unit, _, _, _, hf, hr | .arr _ _, _, _, _, hf, hr | .sl _ _, _, _, _, hf, hr | .ptr _ _, _, _, _, hf, hr | .ref _ _, _, _, _, hf, hr
  | .map _ _ _, _, _, _, hf, hr | .raw _ _, _, _, _, hf, hr | .nils, _, _, _, hf, hr | .nilp, _, _, _, hf, hr => Rep.flat hf hr
theorem holeSV_ok {h : Hp} {L I : Set'} {β : Nat → Value} {ρ : List (Nat × Root)} {k : Nat} (hp : ∀ l t a, look ρ k = some (.box l t a) → ptrOf (β k) 0 = β k) : SVR h L I β ρ (holeSV ρ k) (β k) := by
  unfold holeSV
  cases hl : look ρ k with
  | none => trivial
  | some R =>
    cases R with
    | box l t a => exact ⟨_, 0, t, hl, rfl, trivial, (hp l t a hl).symm⟩
    | arr f l t xs => exact ⟨f, l, t, xs, hl, rfl⟩
    | map l k v es z => exact ⟨l, k, v, es, z, hl, rfl⟩
theorem Inv.ptr0 (hi : Inv C I β F σ w tm) (k : Nat) (l : Bool) (t : Ty) (a : den t) (hl : look σ.r k = some (.box l t a)) : ptrOf (β k) 0 = β k := by
  obtain ⟨b, arr, E', fr, h1, _⟩ := hi.holes k _ hl
  rw [h1]; rfl
theorem resSV_ok {h : Hp} {L I : Set'} {β : Nat → Value} {ρ : List (Nat × Root)} {l : Bool} {t : Ty} {a : den t} {cs : List Value} (hp : ∀ k l t a, look ρ k = some (.box l t a) → ptrOf (β k) 0 = β k)
    (hr : Rep h (Sx L I l) true t a cs []) (hh : Holes β ρ t cs) : SVR h L I β ρ (resSV ρ l t a) (wrapV t cs) := by
  cases t with
  | hole k =>
    simp only [resSV]
    cases hl : look ρ k with
    | none => simp only [holeSV, hl]; trivial
    | some R =>
      obtain ⟨⟨v, rfl, _⟩, _⟩ := hr
      have := hh (0, k) (by simp [holesOf]) (by rw [hl]; simp)
      simp at this
      subst this
      exact holeSV_ok (hp k)
  | nilp => obtain ⟨rfl, _⟩ := hr; exact rfl
  | nils => obtain ⟨⟨a0, rfl⟩, _⟩ := hr; exact ⟨a0, rfl⟩
  | _ => exact mkv_ok hr hh
theorem opLoad_ok (hi : Inv C I β F σ w tm) {t : TypeId} {a sv : SV} {σ' : St} {va : Value}
    (ha : SVR (hpOf w) C.L I β σ.r a va) (he : opLoad C.T t a σ = some (true, sv, σ')) : After0 C I β σ σ' w sv ((Instr.loadAt t va).run C.P w) := by
  unfold opLoad at he
  split at he
  · rename_i l τ x
    split at he
    · rename_i hf
      simp only [Bool.and_eq_true] at hf
      simp only [Option.some.injEq, Prod.mk.injEq, true_and] at he
      obtain ⟨rfl, rfl⟩ := he
      obtain ⟨b, o, arr, E', fr, rfl, _, h2, h3, h4⟩ := q_val ha
      simp only [Instr.loadAt, Instr.sureAddr, Sem.run_bind, Sem.run_pure, Result.andThen_ok, run_load_var hf.1 h2 h3 h4]
      exact hi.after0 (mkv_ok h4 (Holes.solid hf.2.2))
    · simp at he
  · rename_i r s
    obtain ⟨R, o, u, b, base, arr, E', fr, h1, h2, h3, rfl, h5, h6, h7, h8, h9, h10⟩ := place hi ha
    rw [h1] at he
    simp only at he
    split at he
    · rename_i l oo τ x hg
      split at he
      · rename_i hf
        simp only [Bool.and_eq_true] at hf
        simp only [Option.some.injEq, Prod.mk.injEq, true_and] at he
        obtain ⟨rfl, rfl⟩ := he
        obtain ⟨q1, q2, _, hH, Y, _, hY⟩ := h10 l _ hg
        simp only at q1 q2 hH hY
        subst q1; subst q2
        obtain ⟨hY0, hY1⟩ := calm_rep hf.2 hY
        simp only [Instr.loadAt, Instr.sureAddr, Sem.run_bind, Sem.run_pure, Result.andThen_ok, run_load_var hf.1 h5 h8 hY]
        exact hi.after0 (resSV_ok hi.ptr0 hY1 hH)
      · simp at he
    · simp at he
  · simp at he
theorem opNil_ok (hi : Inv C I β F σ w tm) {a sv : SV} {σ' : St} {x : Operand} {ρ : Operand → Value} {o : Oper} (hop : o.op = .nilCheck x)
    (ha : SVR (hpOf w) C.L I β σ.r a (ρ x)) (he : opNil a σ = some (true, sv, σ')) : ∃ v, (execOp ρ o).run C.P w = .ok (.value v) w ∧ σ' = σ ∧ SVR (hpOf w) C.L I β σ.r sv v := by
  unfold execOp
  simp only [hop]
  unfold opNil at he
  split at he
  · simp only [Option.some.injEq, Prod.mk.injEq, true_and] at he
    obtain ⟨rfl, rfl⟩ := he
    obtain ⟨R, o, u, b, base, arr, E', fr, h1, h2, h3, hv, _⟩ := place hi ha
    refine ⟨ρ x, ?_, rfl, ha⟩
    rw [hv]; rfl
  · simp only [Option.some.injEq, Prod.mk.injEq, true_and] at he
    obtain ⟨rfl, rfl⟩ := he
    obtain ⟨b, o, arr, E', fr, hv, _⟩ := q_val ha
    refine ⟨ρ x, ?_, rfl, ha⟩
    rw [hv]; rfl
  · rename_i l oo τ y
    simp only [Option.some.injEq, Prod.mk.injEq] at he
    obtain ⟨hy, rfl, rfl⟩ := he
    cases y with
    | none => simp at hy
    | some y =>
      obtain ⟨cs, hr, hv, _⟩ := ha
      obtain ⟨b, of, arr, E', fr, X', e1, e2, e3, e4, e5⟩ := hr
      subst e1
      have hv : ρ x = .pointer (some ⟨b, of, none⟩) := hv
      refine ⟨ρ x, by rw [hv]; rfl, rfl, ?_⟩
      rw [hv]
      simp only [Bool.not_true, Bool.and_false, Bool.false_eq_true, if_false] at e5
      exact ⟨b, of, arr, E', fr, X', rfl, e2, e3, by simpa using e4, by simpa using e5⟩
  · rename_i l oo τ y
    simp only [Option.some.injEq, Prod.mk.injEq, true_and] at he
    obtain ⟨rfl, rfl⟩ := he
    obtain ⟨cs, hr, hv, _⟩ := ha
    obtain ⟨b, of, arr, E', fr, X', e1, e2, e3, e4, e5⟩ := hr
    subst e1
    have hv : ρ x = .pointer (some ⟨b, of, none⟩) := hv
    refine ⟨ρ x, by rw [hv]; rfl, rfl, ?_⟩
    rw [hv]
    simp only [Bool.not_true, Bool.and_false, Bool.false_eq_true, if_false] at e5
    exact ⟨b, of, arr, E', fr, X', rfl, e2, e3, by simpa using e4, by simpa using e5⟩
  · simp at he
  · simp at he
theorem nthS_ok {h : Hp} {L I : Set'} {β : Nat → Value} {ρ : List (Nat × Root)} : ∀ {l : List SV} {vs : List Value} (i : Nat), All2 (SVR0 h L I β ρ) l vs → nthS l i ≠ .x → ∃ v, vs[i]? = some v ∧ SVR h L I β ρ (nthS l i) v
  | [], _, i, _, hn => by simp [nthS] at hn
  | a :: l, b :: vs, 0, ⟨h1, _⟩, _ => ⟨b, rfl, SVR_of0 h1⟩
  | a :: l, b :: vs, i + 1, ⟨_, h2⟩, hn => by
    obtain ⟨v, e1, e2⟩ := nthS_ok i h2 hn
    exact ⟨v, by simpa using e1, e2⟩
end
end Go.Proofs.YthlpjdjipchdkaaDoor.E

namespace Go.Proofs.YthlpjdjipchdkaaDoor.E
open Go
set_option linter.unusedSimpArgs false
set_option linter.unusedVariables false
section
variable {C : Ctx} {I : Set'} {β : Nat → Value} {F : Nat → List Nat} {σ : St} {w : World} {tm : Array Value}
theorem opExtract_ok (hi : Inv C I β F σ w tm) {a sv : SV} {i : Nat} {σ' : St} {va : Value}
    (ha : SVR (hpOf w) C.L I β σ.r a va) (he : opExtract a i σ = some (true, sv, σ')) : After0 C I β σ σ' w sv ((Instr.extract va i).run C.P w) := by
  unfold opExtract at he
  split at he
  · rename_i l
    obtain ⟨vs, rfl, h2⟩ := ha
    have hne : nthS l i ≠ .x := by intro h; rw [h] at he; simp at he
    obtain ⟨v, e1, e2⟩ := nthS_ok i h2 hne
    have : sv = nthS l i ∧ σ' = σ := by
      cases hq : nthS l i <;> rw [hq] at he <;> simp at he
      all_goals exact ⟨he.1.symm, he.2.symm⟩
    obtain ⟨rfl, rfl⟩ := this
    simp [Instr.extract, e1]
    exact hi.after0 e2
  · simp at he
theorem nthF_eq : ∀ (l : List Field) (f : Nat), nthF l f = l[f]?
  | [], f => by simp [nthF]
  | a :: l, 0 => rfl
  | a :: l, f + 1 => by simp [nthF, nthF_eq l f]
theorem run_fieldPlace {b o : Nat} {fd : Field} {n : Nat} (hs : szB C.T fd.type n = true) (hn : n ≠ 0) (w : World) : (fieldPlace ⟨b, o, none⟩ fd).run C.P w = .ok ⟨b, o + fd.offset, none⟩ w := by
  unfold fieldPlace
  rw [Sem.run_bind, run_size hs]
  simp only [Result.andThen_ok, if_neg hn, Sem.run_pure, addr_add]
theorem opFld_ok (hi : Inv C I β F σ w tm) {t : TypeId} {a sv : SV} {f : Nat} {σ' : St} {va : Value}
    (ha : SVR (hpOf w) C.L I β σ.r a va) (he : opFld C.T t a f σ = some (true, sv, σ')) : After0 C I β σ σ' w sv ((Instr.fieldAt t va f).run C.P w) := by
  unfold opFld at he
  split at he
  · rename_i fs hu
    split at he
    · rename_i fd hfd
      rw [nthF_eq] at hfd
      have hfd' : fs[f]? = some fd := by simpa using hfd
      split at he
      · rename_i l τ x
        split at he
        · rename_i o u y hg
          split at he
          · rename_i hc
            simp only [Bool.and_eq_true, Bool.not_eq_true'] at hc
            simp only [Option.some.injEq, Prod.mk.injEq, true_and] at he
            obtain ⟨rfl, rfl⟩ := he
            obtain ⟨b, of, arr, E', fr, rfl, h1, h2, h3, h4⟩ := q_val ha
            have ho := Nat.eq_of_beq_eq_true hc.1.1
            have hn : u.size ≠ 0 := by intro e; rw [e] at hc; simp at hc
            simp only [Instr.fieldAt, Sem.run_bind, run_underlying (und_ok hu), Result.andThen_ok, hfd', Instr.sureAddr, Sem.run_pure, run_fieldPlace hc.1.2 hn]
            refine hi.after0 ?_
            obtain ⟨Y, hY0, hY, hle⟩ := fldGet_rep hg h4
            have : Y = [] := by cases Y with | nil => rfl | cons b Y => exact absurd (hY0 b (by simp)) (by simp)
            subst this
            have hl4 := h4.len
            rw [hl4] at hle
            simp only at hle hY
            rw [ho]
            refine ⟨b, of + o, arr, E', fr, [], rfl, h2, by omega, ?_, by simp [h1]⟩
            simp only [Bool.true_or]
            have e : List.take u.size (List.drop o (List.take τ.size (List.drop of arr.toList))) = List.take u.size (List.drop (of + o) arr.toList) := by
              rw [List.drop_take, List.take_take, List.drop_drop]
              congr 1; omega
            rw [e] at hY; exact hY
          · simp at he
        · simp at he
      · rename_i r s
        obtain ⟨R, o, u, b, base, arr, E', fr, h1, h2, h3, rfl, h5, h6, h7, h8, h9, h10⟩ := place hi ha
        rw [h1] at he
        simp only at he
        split at he
        · rename_i l oo τ x hg
          split at he
          · rename_i o' u' y hf
            split at he
            · rename_i hc
              simp only [Bool.and_eq_true, Bool.not_eq_true'] at hc
              simp only [Option.some.injEq, Prod.mk.injEq, true_and] at he
              obtain ⟨rfl, rfl⟩ := he
              obtain ⟨q1, q2, _⟩ := h10 l _ hg
              simp only at q1 q2
              subst q1; subst q2
              have ho := Nat.eq_of_beq_eq_true hc.1.1
              have hn : u'.size ≠ 0 := by intro e; rw [e] at hc; simp at hc
              simp only [Instr.fieldAt, Sem.run_bind, run_underlying (und_ok hu), Result.andThen_ok, hfd', Instr.sureAddr, Sem.run_pure, run_fieldPlace hc.1.2 hn]
              refine hi.after0 ?_
              have hfo := fldGet_off _ _ _ _ hf
              simp only at hfo
              have hoff : ∀ (s : List Sel) (t : Ty) (o : Nat) (u : Ty), selOff s t = some (o, u) → fldOff u f = some (o', u') → selOff (s ++ [.f f]) t = some (o + o', u') := by
                intro s
                induction s with
                | nil => intro t o u h h'; simp [selOff] at h; obtain ⟨rfl, rfl⟩ := h; simp [selOff, h']
                | cons z s ih =>
                  intro t o u h h'
                  cases z with
                  | f i =>
                    simp only [selOff, List.cons_append] at h ⊢
                    cases hq : fldOff t i with
                    | none => simp [hq] at h
                    | some q =>
                      simp only [hq] at h ⊢
                      cases hq2 : selOff s q.2 with
                      | none => simp [hq2] at h
                      | some q2 =>
                        simp [hq2] at h
                        obtain ⟨rfl, rfl⟩ := h
                        rw [ih q.2 q2.1 q2.2 hq2 h']
                        simp [Nat.add_assoc]
                  | i n =>
                    cases t <;> simp only [selOff, List.cons_append] at h ⊢ <;> try (simp at h; done)
                    rename_i m t
                    cases hq2 : selOff s t with
                    | none => simp [hq2] at h
                    | some q2 =>
                      simp [hq2] at h
                      obtain ⟨rfl, rfl⟩ := h
                      rw [ih t q2.1 q2.2 hq2 h']
                      simp [Nat.add_assoc]
              have hok : ∀ (s : List Sel) (t : Ty) (o : Nat) (u : Ty), selOff s t = some (o, u) → fldOff u f = some (o', u') → selOk s t → selOk (s ++ [.f f]) t := by
                intro s
                induction s with
                | nil => intro t o u h h' _; simp [selOff] at h; obtain ⟨rfl, rfl⟩ := h; simp [selOk, h']
                | cons z s ih =>
                  intro t o u h h' hk
                  cases z with
                  | f i =>
                    simp only [selOff, List.cons_append, selOk] at h hk ⊢
                    cases hq : fldOff t i with
                    | none => simp [hq] at h
                    | some q =>
                      simp only [hq] at h hk ⊢
                      cases hq2 : selOff s q.2 with
                      | none => simp [hq2] at h
                      | some q2 =>
                        simp [hq2] at h
                        obtain ⟨rfl, rfl⟩ := h
                        exact ih q.2 q2.1 q2.2 hq2 h' hk
                  | i n =>
                    cases t <;> simp only [selOff, List.cons_append, selOk] at h hk ⊢ <;> try (simp at h; done)
                    rename_i m t
                    cases hq2 : selOff s t with
                    | none => simp [hq2] at h
                    | some q2 =>
                      simp [hq2] at h
                      obtain ⟨rfl, rfl⟩ := h
                      exact ⟨hk.1, ih t q2.1 q2.2 hq2 h' hk.2⟩
              refine ⟨R, oo + o', u', h1, ?_, ?_, ?_⟩
              · cases R with
                | box l t a => exact hoff s t oo τ h2 hfo
                | map _ _ _ _ _ => simp [Root.off] at h2
                | arr f l t xs =>
                  cases s with
                  | nil => simp [Root.off] at h2
                  | cons z s => cases z with
                    | f i => simp [Root.off] at h2
                    | i n =>
                      simp only [Root.off, List.cons_append] at h2 ⊢
                      cases hq : selOff s t with
                      | none => simp [hq] at h2
                      | some q =>
                        simp [hq] at h2
                        obtain ⟨rfl, rfl⟩ := h2
                        rw [hoff s t q.1 q.2 hq hfo]
                        simp [Nat.add_assoc]
              · cases R with
                | box l t a => exact hok s t oo τ h2 hfo h3
                | map _ _ _ _ _ => simp [Root.off] at h2
                | arr f l t xs =>
                  cases s with
                  | nil => simp [Root.off] at h2
                  | cons z s => cases z with
                    | f i => simp [Root.off] at h2
                    | i n =>
                      simp only [Root.off] at h2
                      cases hq : selOff s t with
                      | none => simp [hq] at h2
                      | some q =>
                        simp [hq] at h2
                        obtain ⟨rfl, rfl⟩ := h2
                        exact ⟨h3.1, hok s t q.1 q.2 hq hfo h3.2⟩
              · rw [ho]
                obtain ⟨R', o'', u'', e1, e2, e3, e4⟩ := ha
                rw [h1] at e1
                obtain rfl := Option.some.inj e1
                rw [h2] at e2
                simp only [Option.some.injEq, Prod.mk.injEq] at e2
                obtain ⟨rfl, rfl⟩ := e2
                have : ∀ (v : Value) (o o' : Nat), ptrOf v o = .pointer (some ⟨b, base + o, none⟩) → ptrOf v (o + o') = .pointer (some ⟨b, base + o + o', none⟩) := by
                  intro v o o' h
                  unfold ptrOf at h ⊢
                  split at h
                  · simp at h ⊢; omega
                  · simp at h ⊢; omega
                  · simp [undef] at h
                exact (this _ _ _ e4.symm).symm
            · simp at he
          · simp at he
        · simp at he
      · simp at he
    · simp at he
  · simp at he
theorem asIntOf_run (k : IntKind) (n : Int) (w : World) : (asIntOf (.int k n)).run C.P w = .ok (k, n) w := rfl
theorem len_str {t ty : TypeId} (hu : C.P.underlying t = some .string) (s : ByteArray) : (Builtin.len_ #[t] ty #[.string s]).run C.P w = .ok (goInt s.size) w := by
  simp [Builtin.len_, run_underlying hu]
theorem len_arr {t ty e : TypeId} {n : Nat} (hu : C.P.underlying t = some (.array n e)) (v : Value) : (Builtin.len_ #[t] ty #[v]).run C.P w = .ok (goInt n) w := by
  simp [Builtin.len_, run_underlying hu]
theorem len_sl {t ty e : TypeId} (hu : C.P.underlying t = some (.slice e)) (a : Option Addr) (n c : Nat) : (Builtin.len_ #[t] ty #[.slice a n c]).run C.P w = .ok (goInt n) w := by
  simp [Builtin.len_, run_underlying hu]
theorem RM.length {α β : Type} {K : α → List Value → List Nat → Prop} {V : β → List Value → List Nat → Prop} {wk wv : List Value → Value} : ∀ {xs : List (α × β)} {es X}, RM K V wk wv xs es X → es.length = xs.length
  | [], _, _, ⟨h, _⟩ => by rw [h]; rfl
  | _ :: _, _, _, ⟨_, _, _, _, _, _, h1, _, _, _, _, _, h⟩ => by rw [h1]; simp [RM.length h]
theorem RMz.length {α β : Type} {q : α → Bool} {n : Nat} {K : α → List Value → List Nat → Prop} {V : β → List Value → List Nat → Prop} {wk wv : List Value → Value} : ∀ {xs : List (α × β)} {es X}, RMz q K V wk wv n xs es X → es.length = xs.length
  | [], _, _, ⟨h, _⟩ => by rw [h]; rfl
  | _ :: _, _, _, ⟨_, _, _, _, _, _, h1, _, _, _, _, h⟩ => by
    rw [h1]
    split at h
    · simp [h.2.2.length]
    · simp [RMz.length h.2]
theorem len_map {t ty k e : TypeId} {r : Nat} {ents : Array MapEntry} {clock : Nat} (hu : C.P.underlying t = some (.map k e)) (hb : hpOf w r = some (.map ents clock)) : (Builtin.len_ #[t] ty #[.map (some r)]).run C.P w = .ok (goInt ents.size) w := by
  have hb : w.heap[r]? = some (.map ents clock) := hb
  have hg : (getObj r).run C.P w = .ok (.map ents clock) w := by simp [getObj, Sem.run, hb]
  simp [Builtin.len_, Sem.run_bind, run_underlying hu, hg]
theorem opLen_ok (hi : Inv C I β F σ w tm) {t ty : TypeId} {a sv : SV} {σ' : St} {va : Value}
    (ha : SVR (hpOf w) C.L I β σ.r a va) (he : opLen C.T t a σ = some (true, sv, σ')) : After0 C I β σ σ' w sv ((Builtin.len_ #[t] ty #[va]).run C.P w) := by
  unfold opLen at he
  split at he
  · rename_i hu
    split at he
    · obtain rfl := of_str ha
      simp only [Option.some.injEq, Prod.mk.injEq, true_and] at he
      obtain ⟨rfl, rfl⟩ := he
      rw [len_str (und_ok hu)]
      exact hi.after0 svr_int
    · simp at he
  · rename_i hu
    simp only [Option.some.injEq, Prod.mk.injEq, true_and] at he
    obtain ⟨rfl, rfl⟩ := he
    rw [len_arr (und_ok hu)]
    exact hi.after0 svr_int
  · rename_i hu
    split at he
    · obtain ⟨cs, ⟨a, c, rfl, _⟩, rfl, _⟩ := ha
      simp only [Option.some.injEq, Prod.mk.injEq, true_and] at he
      obtain ⟨rfl, rfl⟩ := he
      rw [show wrapV (.sl _ _) [Value.slice a _ c] = Value.slice a _ c from rfl, len_sl (und_ok hu)]
      exact hi.after0 svr_int
    · obtain ⟨a0, rfl⟩ : ∃ a0, va = .slice a0 0 0 := ha
      simp only [Option.some.injEq, Prod.mk.injEq, true_and] at he
      obtain ⟨rfl, rfl⟩ := he
      rw [len_sl (und_ok hu)]
      exact hi.after0 svr_int
    · rename_i r
      obtain ⟨f, l, u, xs, h1, h2⟩ := ha
      rw [h1] at he
      simp only [Option.some.injEq, Prod.mk.injEq, true_and] at he
      obtain ⟨rfl, rfl⟩ := he
      obtain ⟨⟨a, c, e1, _⟩, _⟩ := hi.roots r _ h1
      simp only [List.cons.injEq, and_true] at e1
      rw [h2, e1, len_sl (und_ok hu)]
      exact hi.after0 svr_int
    · rename_i r lo n
      obtain ⟨f, l, u, xs, h1, h2, h3⟩ := ha
      rw [h1] at he
      simp only [Option.some.injEq, Prod.mk.injEq, true_and] at he
      obtain ⟨rfl, rfl⟩ := he
      obtain ⟨a, m, c, a', c', f1, f2, _⟩ := h3
      rw [f2, len_sl (und_ok hu)]
      exact hi.after0 svr_int
    · simp at he
  · rename_i hu
    split at he
    · obtain ⟨cs, ⟨b, ents, clock, X', rfl, h1, _, h2, _⟩, rfl, _⟩ := ha
      simp only [Option.some.injEq, Prod.mk.injEq, true_and] at he
      obtain ⟨rfl, rfl⟩ := he
      rw [show wrapV (.map _ _ _) [Value.map (some b)] = Value.map (some b) from rfl, len_map (und_ok hu) h1]
      have := h2.length
      rw [Array.length_toList] at this
      rw [this]
      exact hi.after0 svr_int
    · rename_i r
      obtain ⟨l, k, vt, es, z, h1, h2⟩ := ha
      rw [h1] at he
      simp only [Option.some.injEq, Prod.mk.injEq, true_and] at he
      obtain ⟨rfl, rfl⟩ := he
      obtain ⟨b, ents, clock, X', e1, e2, _, e3, _⟩ := hi.roots r _ h1
      rw [h2, e1, len_map (und_ok hu) e2]
      have := e3.length
      rw [Array.length_toList] at this
      rw [this]
      exact hi.after0 svr_int
    · simp at he
  · simp at he
theorem run_idx_sl {t e : TypeId} {n b o len c : Nat} {k : IntKind} {i : Int} (hu : C.P.underlying t = some (.slice e)) (hs : szB C.T e n = true) (h0 : 0 ≤ i) (h1 : i < len) :
    (Instr.indexAt t (.slice (some ⟨b, o, none⟩) len c) (.int k i)).run C.P w = .ok (.pointer (some ⟨b, o + i.toNat * n, none⟩)) w := by
  simp [Instr.indexAt, Sem.run_bind, asIntOf_run, run_underlying hu, run_size hs, h0, h1, addr_add]
theorem run_idx_arr {t e : TypeId} {n b o len : Nat} {k : IntKind} {i : Int} (hu : C.P.underlying t = some (.array len e)) (hs : szB C.T e n = true) (h0 : 0 ≤ i) (h1 : i < len) :
    (Instr.indexAt t (.pointer (some ⟨b, o, none⟩)) (.int k i)).run C.P w = .ok (.pointer (some ⟨b, o + i.toNat * n, none⟩)) w := by
  simp [Instr.indexAt, Sem.run_bind, asIntOf_run, run_underlying hu, run_size hs, h0, h1, addr_add, Instr.sureAddr]
theorem sl_block {h : Hp} {S : Set'} {len o : Bool} {t : Ty} {xs : List (den t)} {v : Value} {X : List Nat} (hr : Rep h S len (.sl o t) xs [v] X) (hn : 0 < xs.length) :
    ∃ b of c arr E fr X', v = .slice (some ⟨b, of, none⟩) xs.length c ∧ xs.length ≤ c ∧ h b = some (.cells arr E fr) ∧ of + c * t.size ≤ arr.size ∧ RL (Rep h S (len || !o) t) xs ((arr.toList.drop of).take (xs.length * t.size)) X' ∧
      if o && !len then X = b :: X' ∧ calmS t arr.size fr else S b ∧ X = [] ∧ X' = [] := by
  obtain ⟨a, c, e1, e2, e3⟩ := hr
  simp only [List.cons.injEq, and_true] at e1
  rcases e3 with ⟨e3, _⟩ | ⟨b, of, arr, E', fr, X', f1, f2, f3, f4, f5⟩
  · rw [e3] at hn; simp at hn
  · subst f1
    exact ⟨b, of, c, arr, E', fr, X', e1, e2, f2, f3, f4, f5⟩
theorem ptrOf_sl (b o n c k : Nat) : ptrOf (.slice (some ⟨b, o, none⟩) n c) k = .pointer (some ⟨b, o + k, none⟩) := rfl
theorem selOff_snoc_i {u : Ty} {m : Nat} {n : Nat} : ∀ (s : List Sel) (t : Ty) (o : Nat), selOff s t = some (o, .arr m u) → selOff (s ++ [.i n]) t = some (o + n * u.size, u)
  | [], t, o, h => by simp [selOff] at h; obtain ⟨rfl, rfl⟩ := h; simp [selOff]
  | .f i :: s, t, o, h => by
    simp only [selOff, List.cons_append] at h ⊢
    cases hq : fldOff t i with
    | none => simp [hq] at h
    | some q =>
      simp only [hq] at h ⊢
      cases hq2 : selOff s q.2 with
      | none => simp [hq2] at h
      | some q2 =>
        obtain ⟨q2o, q2t⟩ := q2
        simp [hq2] at h
        obtain ⟨rfl, rfl⟩ := h
        rw [selOff_snoc_i s q.2 q2o hq2]
        simp [Nat.add_assoc]
  | .i j :: s, t, o, h => by
    cases t <;> simp only [selOff, List.cons_append] at h ⊢ <;> try (simp at h; done)
    rename_i m' t
    cases hq2 : selOff s t with
    | none => simp [hq2] at h
    | some q2 =>
      obtain ⟨q2o, q2t⟩ := q2
      simp [hq2] at h
      obtain ⟨rfl, rfl⟩ := h
      rw [selOff_snoc_i s t q2o hq2]
      simp [Nat.add_assoc]
theorem selOk_snoc_i {u : Ty} {m : Nat} {n : Nat} (hn : n < m) : ∀ (s : List Sel) (t : Ty) (o : Nat), selOff s t = some (o, .arr m u) → selOk s t → selOk (s ++ [.i n]) t
  | [], t, o, h, _ => by simp [selOff] at h; obtain ⟨rfl, rfl⟩ := h; exact ⟨hn, trivial⟩
  | .f i :: s, t, o, h, hk => by
    simp only [selOff, List.cons_append, selOk] at h hk ⊢
    cases hq : fldOff t i with
    | none => simp [hq] at h
    | some q =>
      simp only [hq] at h hk ⊢
      cases hq2 : selOff s q.2 with
      | none => simp [hq2] at h
      | some q2 =>
        obtain ⟨q2o, q2t⟩ := q2
        simp [hq2] at h
        obtain ⟨rfl, rfl⟩ := h
        exact selOk_snoc_i hn s q.2 q2o hq2 hk
  | .i j :: s, t, o, h, hk => by
    cases t <;> simp only [selOff, List.cons_append, selOk] at h hk ⊢ <;> try (simp at h; done)
    rename_i m' t
    cases hq2 : selOff s t with
    | none => simp [hq2] at h
    | some q2 =>
      obtain ⟨q2o, q2t⟩ := q2
      simp [hq2] at h
      obtain ⟨rfl, rfl⟩ := h
      exact ⟨hk.1, selOk_snoc_i hn s t q2o hq2 hk.2⟩
theorem opIdxA_ok (hi : Inv C I β F σ w tm) {t : TypeId} {a i sv : SV} {σ' : St} {va vi : Value}
    (ha : SVR (hpOf w) C.L I β σ.r a va) (hin : SVR (hpOf w) C.L I β σ.r i vi) (he : opIdxA C.T t a i σ = some (true, sv, σ')) : After0 C I β σ σ' w sv ((Instr.indexAt t va vi).run C.P w) := by
  unfold opIdxA at he
  split at he
  · rename_i li k n
    change Int at n
    obtain rfl := of_int hin
    split at he
    · rename_i e hu
      split at he
      · rename_i l o u xs
        split at he
        · rename_i hc
          simp only [Bool.and_eq_true] at hc
          simp only [Option.some.injEq, Prod.mk.injEq, inB_iff] at he
          obtain ⟨⟨h0, h1⟩, rfl, rfl⟩ := he
          obtain ⟨cs, hr, hv, _⟩ := ha
          obtain ⟨c1, rfl⟩ : ∃ c, cs = [c] := List.length_eq_one_iff.1 hr.len
          obtain rfl : va = c1 := hv
          obtain ⟨b, of, c, arr, E', fr, X', rfl, g2, g3, g4, g5, g6⟩ := sl_block hr (by omega)
          simp only [Bool.not_true, Bool.and_false, Bool.false_eq_true, if_false] at g6
          obtain ⟨g6, _, rfl⟩ := g6
          rw [run_idx_sl (und_ok hu) hc.1 h0 h1]
          refine hi.after0 ?_
          obtain ⟨Y, hY, _, hR, hle⟩ := RL.get (fun _ _ _ => Rep.len) (dflt u) n.toNat (by omega) g5
          have : Y = [] := by cases Y with | nil => rfl | cons b Y => exact absurd (hY b (by simp)) (by simp)
          subst this
          have hm : n.toNat * u.size + u.size ≤ xs.length * u.size := by rw [← Nat.succ_mul]; exact Nat.mul_le_mul_right _ (by omega)
          have hm2 : xs.length * u.size ≤ c * u.size := Nat.mul_le_mul_right _ g2
          refine ⟨b, of + n.toNat * u.size, arr, E', fr, [], rfl, g3, by omega, ?_, by simp [g6]⟩
          simp only [Bool.true_or] at hR ⊢
          have e : List.take u.size (List.drop (n.toNat * u.size) (List.take (xs.length * u.size) (List.drop of arr.toList))) = List.take u.size (List.drop (of + n.toNat * u.size) arr.toList) := by
            rw [List.drop_take, List.take_take, List.drop_drop]
            congr 1; omega
          rw [e] at hR; exact hR
        · simp at he
      · rename_i r
        obtain ⟨f, l, u, xs, h1, rfl⟩ := ha
        rw [h1] at he
        simp only at he
        split at he
        · rename_i hc
          simp only [Bool.and_eq_true] at hc
          simp only [Option.some.injEq, Prod.mk.injEq, inB_iff] at he
          obtain ⟨⟨h0, h2⟩, rfl, rfl⟩ := he
          obtain ⟨b, of, c, arr, E', fr, X', e1, _⟩ := sl_block (hi.roots r _ h1).1 (by omega)
          rw [e1, run_idx_sl (und_ok hu) hc.1 h0 h2]
          refine hi.after0 ⟨_, n.toNat * u.size + 0, u, h1, by simp [Root.off, selOff], ⟨by omega, trivial⟩, ?_⟩
          rw [e1, ptrOf_sl]; simp
        · simp at he
      · rename_i r lo m
        obtain ⟨f, l, u, xs, h1, h2, h3⟩ := ha
        rw [h1] at he
        simp only at he
        split at he
        · rename_i hc
          simp only [Bool.and_eq_true] at hc
          simp only [Option.some.injEq, Prod.mk.injEq, inB_iff] at he
          obtain ⟨⟨h0, h4⟩, rfl, rfl⟩ := he
          obtain ⟨b, of, c, arr, E', fr, X', e1, _⟩ := sl_block (hi.roots r _ h1).1 (by omega)
          obtain ⟨a0, m0, c0, a', c', f1, rfl, f3, f4, f5⟩ := h3
          rw [e1] at f1
          simp only [Value.slice.injEq] at f1
          obtain ⟨rfl, rfl, rfl⟩ := f1
          rcases f5 with ⟨_, _, f5⟩ | ⟨b', o', k', f5, rfl, _, f8⟩
          · omega
          · have hk : lo = k' := by omega
            subst hk
            simp only [Option.some.injEq, Addr.mk.injEq, and_true] at f5
            obtain ⟨rfl, rfl⟩ := f5
            rw [run_idx_sl (und_ok hu) hc.1 h0 h4]
            refine hi.after0 ⟨_, (lo + n.toNat) * u.size + 0, u, h1, by simp [Root.off, selOff], ⟨by omega, trivial⟩, ?_⟩
            rw [e1, ptrOf_sl]; simp [Nat.add_mul, Nat.add_assoc]
        · simp at he
      · simp at he
      · simp at he
    · rename_i m e hu
      split at he
      · rename_i r s
        obtain ⟨R, o, u, b, base, arr, E', fr, h1, h2, h3, rfl, h5, h6, h7, h8, h9, h10⟩ := place hi ha
        rw [h1] at he
        simp only at he
        split at he
        · rename_i l oo m' u' x hg
          split at he
          · rename_i hc
            simp only [Bool.and_eq_true] at hc
            simp only [Option.some.injEq, Prod.mk.injEq, inB_iff] at he
            obtain ⟨⟨h0, h11⟩, rfl, rfl⟩ := he
            obtain ⟨q1, q2, _⟩ := h10 l _ hg
            simp only at q1 q2
            subst q1; subst q2
            obtain rfl := Nat.eq_of_beq_eq_true hc.2
            rw [run_idx_arr (und_ok hu) hc.1.1 h0 h11]
            refine hi.after0 ⟨R, oo + n.toNat * u'.size, u', h1, ?_, ?_, ?_⟩
            · cases R with
              | box l t a => exact selOff_snoc_i s t oo h2
              | map _ _ _ _ _ => simp [Root.off] at h2
              | arr f l t xs =>
                cases s with
                | nil => simp [Root.off] at h2
                | cons z s => cases z with
                  | f i => simp [Root.off] at h2
                  | i j =>
                    simp only [Root.off, List.cons_append] at h2 ⊢
                    cases hq : selOff s t with
                    | none => simp [hq] at h2
                    | some q =>
                      obtain ⟨q2o, q2t⟩ := q
                      simp [hq] at h2
                      obtain ⟨rfl, rfl⟩ := h2
                      rw [selOff_snoc_i s t q2o hq]
                      simp [Nat.add_assoc]
            · have hlt : n.toNat < m := by omega
              cases R with
              | box l t a => exact selOk_snoc_i hlt s t oo h2 h3
              | map _ _ _ _ _ => simp [Root.off] at h2
              | arr f l t xs =>
                cases s with
                | nil => simp [Root.off] at h2
                | cons z s => cases z with
                  | f i => simp [Root.off] at h2
                  | i j =>
                    simp only [Root.off] at h2
                    cases hq : selOff s t with
                    | none => simp [hq] at h2
                    | some q =>
                      obtain ⟨q2o, q2t⟩ := q
                      simp [hq] at h2
                      obtain ⟨rfl, rfl⟩ := h2
                      exact ⟨h3.1, selOk_snoc_i hlt s t q2o hq h3.2⟩
            · obtain ⟨R', o'', u'', e1, e2, e3, e4⟩ := ha
              rw [h1] at e1
              obtain rfl := Option.some.inj e1
              rw [h2] at e2
              simp only [Option.some.injEq, Prod.mk.injEq] at e2
              obtain ⟨rfl, rfl⟩ := e2
              have : ∀ (v : Value) (o o' : Nat), ptrOf v o = .pointer (some ⟨b, base + o, none⟩) → ptrOf v (o + o') = .pointer (some ⟨b, base + o + o', none⟩) := by
                intro v o o' h
                unfold ptrOf at h ⊢
                split at h
                · simp at h ⊢; omega
                · simp at h ⊢; omega
                · simp [undef] at h
              exact (this _ _ _ e4.symm).symm
          · simp at he
        · simp at he
      · rename_i l m' u xs
        split at he
        · rename_i hc
          simp only [Bool.and_eq_true] at hc
          simp only [Option.some.injEq, Prod.mk.injEq, inB_iff] at he
          obtain ⟨⟨h0, h1⟩, rfl, rfl⟩ := he
          obtain rfl := Nat.eq_of_beq_eq_true hc.2
          obtain ⟨b, of, arr, E', fr, rfl, g1, g2, g3, hlen, g4⟩ := q_val ha
          rw [run_idx_arr (und_ok hu) hc.1.1 h0 h1]
          refine hi.after0 ?_
          obtain ⟨Y, hY, _, hR, hle⟩ := RL.get (fun _ _ _ => Rep.len) (dflt u) n.toNat (by omega) g4
          have : Y = [] := by cases Y with | nil => rfl | cons b Y => exact absurd (hY b (by simp)) (by simp)
          subst this
          have hm : n.toNat * u.size + u.size ≤ m * u.size := by rw [← Nat.succ_mul]; exact Nat.mul_le_mul_right _ (by omega)
          have hsz : (Ty.arr m u).size = m * u.size := rfl
          rw [hsz] at g3 hR
          refine ⟨b, of + n.toNat * u.size, arr, E', fr, [], rfl, g2, by omega, ?_, by simp [g1]⟩
          have e : List.take u.size (List.drop (n.toNat * u.size) (List.take (m * u.size) (List.drop of arr.toList))) = List.take u.size (List.drop (of + n.toNat * u.size) arr.toList) := by
            rw [List.drop_take, List.take_take, List.drop_drop]
            congr 1; omega
          rw [e] at hR; simpa using hR
        · simp at he
      · simp at he
    · simp at he
  · simp at he
theorem opIdx_ok (hi : Inv C I β F σ w tm) {t : TypeId} {a i sv : SV} {σ' : St} {va vi : Value}
    (ha : SVR (hpOf w) C.L I β σ.r a va) (hin : SVR (hpOf w) C.L I β σ.r i vi) (he : opIdx C.T t a i σ = some (true, sv, σ')) : After0 C I β σ σ' w sv ((Instr.index t va vi).run C.P w) := by
  unfold opIdx at he
  split at he
  · rename_i li k n
    change Int at n
    obtain rfl := of_int hin
    split at he
    · rename_i l s hu
      obtain rfl := of_str ha
      simp only [Option.some.injEq, Prod.mk.injEq, inB_iff] at he
      obtain ⟨⟨h0, h1⟩, rfl, rfl⟩ := he
      have hlt : n.toNat < s.length := by omega
      have hb : (⟨⟨s⟩⟩ : ByteArray)[n.toNat]? = some (s.getD n.toNat 0) := by
        have : n.toNat < (⟨⟨s⟩⟩ : ByteArray).size := hlt
        rw [getElem?_pos (⟨⟨s⟩⟩ : ByteArray) n.toNat this]
        simp [hlt]
        rfl
      simp only [Instr.index, Sem.run_bind, asIntOf_run, Result.andThen_ok, run_underlying (und_ok hu), if_pos h0, hb]
      exact hi.after0 svr_int
    · rename_i m e l m' u xs hu
      split at he
      · rename_i hc
        simp only [Bool.and_eq_true] at hc
        simp only [Option.some.injEq, Prod.mk.injEq, inB_iff] at he
        obtain ⟨⟨h0, h1⟩, rfl, rfl⟩ := he
        obtain rfl := Nat.eq_of_beq_eq_true hc.2.1
        obtain ⟨cs, ⟨hlen, hr⟩, rfl, _⟩ := ha
        obtain ⟨Y, hY, _, hR, hle⟩ := RL.get (fun _ _ _ => Rep.len) (dflt u) n.toNat (by omega) hr
        have : Y = [] := by cases Y with | nil => rfl | cons b Y => exact absurd (hY b (by simp)) (by simp)
        subst this
        have hs : szB C.T e u.size = true := by have := hc.1; simp only [fits, Bool.and_eq_true] at this; exact this.1
        have hw : wrapV (.arr m u) cs = .agg cs.toArray := rfl
        simp only [Instr.index, hw, Sem.run_bind, asIntOf_run, Result.andThen_ok, run_underlying (und_ok hu), h0, h1, and_self, if_true, run_size hs, part_run hc.1 hle hR]
        exact hi.after0 (mkv_ok hR (Holes.solid hc.2.2))
      · simp at he
    · simp at he
  · simp at he
theorem opField_ok (hi : Inv C I β F σ w tm) {t : TypeId} {a sv : SV} {f : Nat} {σ' : St} {va : Value}
    (ha : SVR (hpOf w) C.L I β σ.r a va) (he : opField C.T t a f σ = some (true, sv, σ')) : After0 C I β σ σ' w sv ((Instr.field t va f).run C.P w) := by
  unfold opField at he
  split at he
  · rename_i fs hu
    split at he
    · rename_i fd hfd
      rw [nthF_eq] at hfd
      have hfd' : fs[f]? = some fd := by simpa using hfd
      split at he
      · rename_i l τ x
        split at he
        · rename_i o u y hg
          split at he
          · rename_i hc
            simp only [Bool.and_eq_true] at hc
            simp only [Option.some.injEq, Prod.mk.injEq, true_and] at he
            obtain ⟨rfl, rfl⟩ := he
            obtain ⟨cs, hr, rfl, hH⟩ := ha
            have hw : wrapV τ cs = .agg cs.toArray := by simp [wrapV, hc.2]
            have ho := Nat.eq_of_beq_eq_true hc.1.1
            obtain ⟨Y, hY0, hY, hle⟩ := fldGet_rep hg hr
            have : Y = [] := by cases Y with | nil => rfl | cons b Y => exact absurd (hY0 b (by simp)) (by simp)
            subst this
            simp only [Instr.field, hw, Sem.run_bind, run_underlying (und_ok hu), Result.andThen_ok, hfd', asAgg, Sem.run_pure, ho, part_run hc.1.2 hle hY]
            refine hi.after0 (resSV_ok hi.ptr0 hY ?_)
            intro z hz hl
            have hfo := fldGet_off _ _ _ _ hg
            simp only at hz hfo
            have hz2 : (z.1 + o, z.2) ∈ holesOf τ 0 := fldOff_holes hfo _ (by rw [holesOf_shift]; exact List.mem_map.2 ⟨z, hz, rfl⟩)
            have hlt := (holesOf_lt hz).2
            have := hH _ hz2 hl
            simp only at this
            rw [List.getElem?_take, if_pos (by omega), List.getElem?_drop, ← this]
            congr 1; omega
          · simp at he
        · simp at he
      · simp at he
    · simp at he
  · simp at he
end
end Go.Proofs.YthlpjdjipchdkaaDoor.E

namespace Go.Proofs.YthlpjdjipchdkaaDoor.E
open Go
set_option linter.unusedSimpArgs false
set_option linter.unusedVariables false
section
variable {C : Ctx} {I : Set'} {β : Nat → Value} {F : Nat → List Nat} {σ : St} {w : World} {tm : Array Value}
def OptR (h : Hp) (L I : Set') (β : Nat → Value) (ρ : List (Nat × Root)) : Option SV → Option Value → Prop
  | none, none => True
  | some sv, some v => SVR h L I β ρ sv v
  | _, _ => False
theorem run_bound {k : IntKind} {i : Int} {y : Nat} {code : BoundsCode} (h0 : 0 ≤ i) (h1 : i ≤ y) (w : World) : (Instr.sliceBound (.int k i) y code).run C.P w = .ok i.toNat w := by
  simp [Instr.sliceBound, Sem.run_bind, asIntOf_run, h0, h1]
theorem bndM_ok {h : Hp} {L : Set'} {ρ : List (Nat × Root)} {n cap : Nat} {mx : Option SV} {vmx : Option Value} {code : BoundsCode} (hcap : n ≤ cap) (hmx : OptR h L I β ρ mx vmx) {m : Nat} (hb : bndM n mx = some (true, m)) :
    ∃ m', m ≤ n ∧ m ≤ m' ∧ m' ≤ cap ∧ (mx = none → m = n) ∧ vmx.isSome = mx.isSome ∧ ∀ w, ((match vmx with | some v => Instr.sliceBound v cap code | none => pure cap : Sem Nat)).run C.P w = .ok m' w := by
  unfold bndM at hb
  split at hb
  · cases vmx with
    | some _ => exact hmx.elim
    | none =>
      simp at hb
      exact ⟨cap, by omega, by omega, Nat.le_refl _, fun _ => hb.symm, rfl, fun _ => rfl⟩
  · rename_i l' k i
    cases vmx with
    | none => exact hmx.elim
    | some v =>
      obtain rfl := of_int (h := h) (L := L) (I := I) (β := β) (ρ := ρ) hmx
      simp only [Option.some.injEq, Prod.mk.injEq, leB_iff] at hb
      obtain ⟨⟨q1, q2⟩, rfl⟩ := hb
      exact ⟨i.toNat, by omega, Nat.le_refl _, by omega, by simp, rfl, fun w => run_bound q1 (by omega) w⟩
  · simp at hb
theorem bndH_ok {h : Hp} {L : Set'} {ρ : List (Nat × Root)} {n m m' : Nat} {hi : Option SV} {vhi vmx : Option Value} {c1 c2 : BoundsCode} {z : Bool} (hm : m ≤ n) (hm' : m ≤ m') (hhi : OptR h L I β ρ hi vhi) (hz : z = false → m = n) (hv : vmx.isSome = z) {e : Nat} (hb : bndH n m hi z = some (true, e)) :
    e ≤ m ∧ (hi = none → e = n) ∧ ∀ w, ((match vhi, vmx with
        | some v, some _ => Instr.sliceBound v m' c1
        | some v, none => Instr.sliceBound v m' c2
        | none, none => pure n
        | none, some _ => stuck "Slice: max without high" : Sem Nat)).run C.P w = .ok e w := by
  unfold bndH at hb
  split at hb
  · cases vhi with
    | some _ => exact hhi.elim
    | none => cases vmx with
      | some _ => simp at hv
      | none =>
        simp at hb
        have := hz rfl
        exact ⟨by omega, fun _ => hb.symm, fun _ => by rw [hb]; rfl⟩
  · rename_i l' k i
    cases vhi with
    | none => exact hhi.elim
    | some v =>
      obtain rfl := of_int (h := h) (L := L) (I := I) (β := β) (ρ := ρ) hhi
      simp only [Option.some.injEq, Prod.mk.injEq, leB_iff] at hb
      obtain ⟨⟨q1, q2⟩, rfl⟩ := hb
      refine ⟨by omega, by simp, fun w => ?_⟩
      cases vmx with
      | none => exact run_bound q1 (by omega) w
      | some _ => exact run_bound q1 (by omega) w
  · simp at hb
theorem bndL_ok {h : Hp} {L : Set'} {ρ : List (Nat × Root)} {e : Nat} {lo : Option SV} {vlo : Option Value} {code : BoundsCode} (hlo : OptR h L I β ρ lo vlo) {l : Nat} (hb : bndL e lo = some (true, l)) :
    l ≤ e ∧ (lo = none → l = 0) ∧ ∀ w, ((match vlo with | some v => Instr.sliceBound v e code | none => pure 0 : Sem Nat)).run C.P w = .ok l w := by
  unfold bndL at hb
  split at hb
  · cases vlo with
    | some _ => exact hlo.elim
    | none => simp at hb; subst hb; exact ⟨Nat.zero_le _, fun _ => rfl, fun _ => rfl⟩
  · rename_i l' k i
    cases vlo with
    | none => exact hlo.elim
    | some v =>
      obtain rfl := of_int (h := h) (L := L) (I := I) (β := β) (ρ := ρ) hlo
      simp only [Option.some.injEq, Prod.mk.injEq, leB_iff] at hb
      obtain ⟨⟨q1, q2⟩, rfl⟩ := hb
      exact ⟨by omega, by simp, fun w => run_bound q1 (by omega) w⟩
  · simp at hb
theorem bnd_ok {h : Hp} {L : Set'} {ρ : List (Nat × Root)} {n cap : Nat} {lo hi mx : Option SV} {vlo vhi vmx : Option Value} (b : Bool) (hcap : n ≤ cap) (hlo : OptR h L I β ρ lo vlo) (hhi : OptR h L I β ρ hi vhi) (hmx : OptR h L I β ρ mx vmx) {l e : Nat}
    (hb : bnd n lo hi mx = some (true, l, e)) (w : World) : ∃ m, (Instr.sliceBounds b n cap vlo vhi vmx).run C.P w = .ok (l, e, m) w ∧ l ≤ e ∧ e ≤ n ∧ e ≤ m ∧ m ≤ cap ∧ (lo = none → l = 0) ∧ (hi = none → e = n) := by
  unfold bnd at hb
  cases h1 : bndM n mx with
  | none => simp [h1] at hb
  | some q1 =>
    obtain ⟨cm, m⟩ := q1
    simp only [h1] at hb
    cases h2 : bndH n m hi mx.isSome with
    | none => simp [h2] at hb
    | some q2 =>
      obtain ⟨ch, e'⟩ := q2
      simp only [h2] at hb
      cases h3 : bndL e' lo with
      | none => simp [h3] at hb
      | some q3 =>
        obtain ⟨cl, l'⟩ := q3
        simp [h3] at hb
        obtain ⟨⟨⟨rfl, rfl⟩, rfl⟩, rfl, rfl⟩ := hb
        obtain ⟨m', a1, a2, a3, a4, a5, a6⟩ := bndM_ok (C := C) (code := (if b = true then BoundsCode.slice3Acap else .slice3Alen)) hcap hmx h1
        obtain ⟨b1, b2, b3⟩ := bndH_ok (C := C) (m' := m') (c1 := .slice3B) (c2 := (if b = true then BoundsCode.sliceAcap else .sliceAlen)) a1 a2 hhi (fun hz => a4 (by cases mx <;> simp at hz ⊢)) a5 h2
        obtain ⟨d1, d2, d3⟩ := bndL_ok (C := C) (code := (if vmx.isSome = true then BoundsCode.slice3C else .sliceB)) hlo h3
        refine ⟨m', ?_, d1, by omega, by omega, a3, d2, b2⟩
        have a6 := a6 w
        have b3 := b3 w
        have d3 := d3 w
        clear a5 hmx hhi hlo h1 h2 h3
        unfold Instr.sliceBounds
        cases vmx <;> cases vhi <;> cases vlo <;> simp only [Sem.run_bind, Sem.run_pure, Result.andThen_ok, Option.isSome, if_true, if_false, Bool.false_eq_true] at a6 b3 d3 ⊢
        all_goals simp_all
theorem cutL_eq {α : Type} (xs : List α) {lo hi mx : Option SV} {l e : Nat} (h1 : lo = none → l = 0) (h2 : hi = none → e = xs.length) (h3 : e ≤ xs.length) : cutL xs lo hi mx l e = (xs.drop l).take (e - l) := by
  unfold cutL
  cases lo with
  | none =>
    obtain rfl := h1 rfl
    cases hi with
    | none => obtain rfl := h2 rfl; simp
    | some _ => simp
  | some _ =>
    cases hi with
    | none => obtain rfl := h2 rfl; simp; rw [List.take_of_length_le (by simp)]
    | some _ => simp [List.drop_take]
theorem sub_sub {v u x : Value} {sz lo n l k : Nat} (h1 : subOf v sz lo n u) (h2 : subOf u sz l k x) : subOf v sz (lo + l) k x := by
  obtain ⟨a, m, c, a', c', rfl, rfl, e3, e4, e5⟩ := h1
  obtain ⟨b, n', d, b', d', f1, rfl, f3, f4, f5⟩ := h2
  simp only [Value.slice.injEq] at f1
  obtain ⟨rfl, rfl, rfl⟩ := f1
  refine ⟨a, m, c, b', d', rfl, rfl, f3, by omega, ?_⟩
  rcases e5 with ⟨e5, e6, e7⟩ | ⟨bb, oo, kk, e5, e6, e7, e8⟩
  · exact .inl ⟨rfl, rfl, by omega⟩
  · rcases f5 with ⟨_, _, f5⟩ | ⟨b2, o2, k2, f5, f6, f7, f8⟩
    · exact .inl ⟨rfl, rfl, f5⟩
    · rw [e6] at f5
      simp only [Option.some.injEq, Addr.mk.injEq, and_true] at f5
      obtain ⟨rfl, rfl⟩ := f5
      exact .inr ⟨bb, oo, kk + k2, e5, by rw [f6, Nat.add_mul]; simp [Nat.add_assoc], by omega, by omega⟩
end
end Go.Proofs.YthlpjdjipchdkaaDoor.E

namespace Go.Proofs.YthlpjdjipchdkaaDoor.E
open Go
set_option linter.unusedSimpArgs false
set_option linter.unusedVariables false
section
variable {C : Ctx} {I : Set'} {β : Nat → Value} {F : Nat → List Nat} {σ : St} {w : World} {tm : Array Value}
theorem run_slice_sl {t e : TypeId} {n len cap l h m : Nat} {a : Option Addr} {lo hi mx : Option Value} (hu : C.P.underlying t = some (.slice e)) (hs : szB C.T e n = true)
    (hb : (Instr.sliceBounds true len cap lo hi mx).run C.P w = .ok (l, h, m) w) :
    (Instr.sliceAt t (.slice a len cap) lo hi mx).run C.P w = .ok (.slice (if m = l then a else a.map (·.add (l * n))) (h - l) (m - l)) w := by
  simp [Instr.sliceAt, Instr.slice, Sem.run_bind, run_underlying hu, hb, run_size hs]
theorem run_slice_str {t : TypeId} {s : ByteArray} {l h m : Nat} {lo hi : Option Value} (hu : C.P.underlying t = some .string)
    (hb : (Instr.sliceBounds false s.size s.size lo hi none).run C.P w = .ok (l, h, m) w) :
    (Instr.sliceAt t (.string s) lo hi none).run C.P w = .ok (.string (s.extract l h)) w := by
  simp [Instr.sliceAt, Instr.slice, Sem.run_bind, run_underlying hu, hb]
theorem ba_extract (s : List UInt8) (l h : Nat) : (⟨⟨s⟩⟩ : ByteArray).extract l h = ⟨⟨(s.drop l).take (h - l)⟩⟩ := by
  apply ByteArray.ext
  apply Array.toList_inj.1
  simp [ByteArray.data_extract, Array.toList_extract, List.extract_eq_take_drop]
theorem sub_result {sz len cap l h m : Nat} {a : Option Addr} (hsp : cap = 0 ∨ ∀ x, a = some x → x.spot = none) (hnil : a = none → cap = 0) (h1 : l ≤ h) (h2 : h ≤ m) (h3 : m ≤ cap) :
    subOf (.slice a len cap) sz l (h - l) (.slice (if m = l then a else a.map (·.add (l * sz))) (h - l) (m - l)) := by
  refine ⟨a, len, cap, _, m - l, rfl, rfl, by omega, by omega, ?_⟩
  rcases hsp with hsp | hsp
  · exact .inl ⟨rfl, rfl, by omega⟩
  cases a with
  | none =>
    have := hnil rfl
    exact .inl ⟨rfl, rfl, by omega⟩
  | some x =>
    obtain ⟨b, o, s⟩ := x
    obtain rfl := hsp _ rfl
    by_cases he : m = l
    · exact .inr ⟨b, o, 0, rfl, by simp [he], by omega, .inl (by omega)⟩
    · exact .inr ⟨b, o, l, rfl, by simp [he, addr_add], by omega, .inr rfl⟩
theorem sl_shape {h : Hp} {S : Set'} {len o : Bool} {t : Ty} {xs : List (den t)} {v : Value} {X : List Nat} (hr : Rep h S len (.sl o t) xs [v] X) :
    ∃ a c, v = .slice a xs.length c ∧ xs.length ≤ c ∧ (c = 0 ∨ ∀ x, a = some x → x.spot = none) ∧ (a = none → c = 0) := by
  obtain ⟨a, c, e1, e2, e3⟩ := hr
  simp only [List.cons.injEq, and_true] at e1
  refine ⟨a, c, e1, e2, ?_, ?_⟩
  · rcases e3 with ⟨_, _, e3, _⟩ | ⟨b, of, arr, E', fr, X', rfl, _⟩
    · exact .inl e3
    · refine .inr ?_; intro x hx; simp at hx; subst hx; rfl
  · rcases e3 with ⟨_, _, e3, _⟩ | ⟨b, of, arr, E', fr, X', rfl, _⟩
    · exact fun _ => e3
    · simp
theorem opSlice_ok (hi : Inv C I β F σ w tm) {t : TypeId} {a sv : SV} {lo hh mx : Option SV} {σ' : St} {va : Value} {vlo vhi vmx : Option Value}
    (ha : SVR (hpOf w) C.L I β σ.r a va) (hlo : OptR (hpOf w) C.L I β σ.r lo vlo) (hhi : OptR (hpOf w) C.L I β σ.r hh vhi) (hmx : OptR (hpOf w) C.L I β σ.r mx vmx)
    (he : opSlice C.T t a lo hh mx σ = some (true, sv, σ')) : After0 C I β σ σ' w sv ((Instr.sliceAt t va vlo vhi vmx).run C.P w) := by
  unfold opSlice at he
  split at he
  · rename_i hu
    split at he
    · rename_i l s
      obtain rfl := of_str ha
      cases vmx with
      | some _ => exact hmx.elim
      | none =>
        split at he
        · rename_i c l' h' hb
          simp only [Option.some.injEq, Prod.mk.injEq] at he
          obtain ⟨rfl, rfl, rfl⟩ := he
          obtain ⟨m, hr, q1, q2, q3, q4, q5, q6⟩ := bnd_ok (C := C) false (Nat.le_refl _) hlo hhi (show OptR (hpOf w) C.L I β σ.r none none from trivial) hb w
          rw [run_slice_str (s := ⟨⟨s⟩⟩) (und_ok hu) hr, ba_extract, cutL_eq s q5 q6 q2]
          exact hi.after0 svr_str
        · simp at he
    · simp at he
  · rename_i e hu
    split at he
    · rename_i l o u xs
      split at he
      · rename_i hc
        simp only [Bool.and_eq_true] at hc
        split at he
        · rename_i c l' h' hb
          simp only [Option.some.injEq, Prod.mk.injEq] at he
          obtain ⟨rfl, rfl, rfl⟩ := he
          obtain ⟨cs, hr, hv, _⟩ := ha
          obtain ⟨c1, rfl⟩ : ∃ c, cs = [c] := List.length_eq_one_iff.1 hr.len
          obtain rfl : va = c1 := hv
          obtain ⟨a, c, rfl, e2, e3, e4⟩ := sl_shape hr
          obtain ⟨m, hr', q1, q2, q3, q4, q5, q6⟩ := bnd_ok (C := C) true e2 hlo hhi hmx hb w
          rw [run_slice_sl (und_ok hu) hc.1 hr', cutL_eq xs q5 q6 q2]
          have hs := sub_result (sz := u.size) (len := xs.length) e3 e4 q1 q3 q4
          exact hi.after0 ⟨_, sub_rep hr hs (by omega), rfl, Holes.solid rfl⟩
        · simp at he
      · simp at he
    · rename_i r
      obtain ⟨f0, l, u, xs, h1, rfl⟩ := ha
      rw [h1] at he
      cases f0 with
      | true => simp at he
      | false =>
      simp only at he
      split at he
      · rename_i hc
        simp only [Bool.and_eq_true] at hc
        split at he
        · rename_i c l' h' hb
          simp only [Option.some.injEq, Prod.mk.injEq] at he
          obtain ⟨rfl, rfl, rfl⟩ := he
          obtain ⟨a, c, e1, e2, e3, e4⟩ := sl_shape (hi.roots r _ h1).1
          obtain ⟨m, hr', q1, q2, q3, q4, q5, q6⟩ := bnd_ok (C := C) true e2 hlo hhi hmx hb w
          rw [e1, run_slice_sl (und_ok hu) hc.1 hr']
          refine hi.after0 ⟨_, l, u, xs, h1, by omega, ?_⟩
          rw [e1]
          exact sub_result e3 e4 q1 q3 q4
        · simp at he
      · simp at he
    · rename_i r b n
      obtain ⟨f0, l, u, xs, h1, h2, h3⟩ := ha
      rw [h1] at he
      cases f0 with
      | true => simp at he
      | false =>
      simp only at he
      split at he
      · rename_i hc
        simp only [Bool.and_eq_true] at hc
        split at he
        · rename_i c l' h' hb
          simp only [Option.some.injEq, Prod.mk.injEq] at he
          obtain ⟨rfl, rfl, rfl⟩ := he
          have h3' := h3
          obtain ⟨a0, m0, c0, a', c', f1, rfl, f3, f4, f5⟩ := h3
          obtain ⟨m, hr', q1, q2, q3, q4, q5, q6⟩ := bnd_ok (C := C) true f3 hlo hhi hmx hb w
          rw [run_slice_sl (und_ok hu) hc.1 hr']
          refine hi.after0 ⟨_, l, u, xs, h1, by omega, ?_⟩
          refine sub_sub h3' (sub_result ?_ ?_ q1 q3 q4)
          · rcases f5 with ⟨_, _, f5⟩ | ⟨bb, oo, kk, _, rfl, _⟩
            · exact .inl f5
            · refine .inr ?_; intro x hx; simp at hx; subst hx; rfl
          · rcases f5 with ⟨_, _, f5⟩ | ⟨bb, oo, kk, _, rfl, _⟩
            · exact fun _ => f5
            · simp
        · simp at he
      · simp at he
    · split at he
      · rename_i i hT
        split at he
        · rename_i c l' h' hb
          simp only [Option.some.injEq, Prod.mk.injEq] at he
          obtain ⟨rfl, rfl, rfl⟩ := he
          obtain ⟨a0, rfl⟩ : ∃ a0, va = .slice a0 0 0 := ha
          obtain ⟨m, hr', q1, q2, q3, q4, q5, q6⟩ := bnd_ok (C := C) true (Nat.le_refl 0) hlo hhi hmx hb w
          obtain rfl : h' = 0 := by omega
          obtain rfl : l' = 0 := by omega
          obtain rfl : m = 0 := by omega
          have hn : szB C.T e i.size = true := by simp [szB, hT]
          rw [run_slice_sl (und_ok hu) hn hr']
          exact hi.after0 ⟨_, rfl⟩
        · simp at he
      · simp at he
    · simp at he
  · simp at he
theorem andThen_ok_iff {α β : Type} {r : Result α} {f : α → World → Result β} {b : β} {w : World} (h : Result.andThen r f = .ok b w) : ∃ a w1, r = .ok a w1 ∧ f a w1 = .ok b w := by
  cases r <;> simp only [Result.andThen] at h <;> first | exact ⟨_, _, rfl, h⟩ | cases h
theorem bnd_zero {b : Bool} {n cap l h m : Nat} {lo hh : Option Value} {k : IntKind} (hr : (Instr.sliceBounds b n cap lo hh (some (.int k 0))).run C.P w = .ok (l, h, m) w) : m = 0 := by
  unfold Instr.sliceBounds at hr
  rw [Sem.run_bind] at hr
  obtain ⟨m1, w1, e1, e2⟩ := andThen_ok_iff hr
  have : m1 = 0 := by
    simp [Instr.sliceBound, asIntOf, Sem.run_bind] at e1
    exact e1.1.symm
  subst this
  cases hh with
  | none =>
    dsimp only at e2
    rw [Sem.run_bind] at e2
    obtain ⟨h1, w2, e3, _⟩ := andThen_ok_iff e2
    simp [stuck] at e3
  | some vh =>
    dsimp only at e2
    rw [Sem.run_bind] at e2
    obtain ⟨h1, w2, _, e3⟩ := andThen_ok_iff e2
    cases lo with
    | none => simp at e3; exact e3.1.2.2.symm
    | some vl =>
      dsimp only at e3
      rw [Sem.run_bind] at e3
      obtain ⟨l1, w3, _, e4⟩ := andThen_ok_iff e3
      simp at e4
      exact e4.1.2.2.symm
theorem opSlice0_ok (hi : Inv C I β F σ w tm) {t : TypeId} {a sv : SV} {lo hh mx : Option SV} {σ' : St} {va : Value} {vlo vhi : Option Value} {k : IntKind}
    (ha : SVR (hpOf w) C.L I β σ.r a va) (hlo : OptR (hpOf w) C.L I β σ.r lo vlo) (hhi : OptR (hpOf w) C.L I β σ.r hh vhi) (hmx : OptR (hpOf w) C.L I β σ.r mx (some (.int k 0)))
    (he : opSlice0 C.T t a lo hh mx σ = some (true, sv, σ')) : After0 C I β σ σ' w sv ((Instr.sliceAt t va vlo vhi (some (.int k 0))).run C.P w) := by
  unfold opSlice0 at he
  split at he
  · rename_i e' c sv0 σ0 hu0 he0
    simp only [Option.some.injEq, Prod.mk.injEq] at he
    obtain ⟨rfl, rfl, rfl⟩ := he
    have fin : ∀ {l' h' m : Nat} {A : Option Addr}, (Instr.sliceAt t va vlo vhi (some (.int k 0))).run C.P w = .ok (.slice A (h' - l') (m - l')) w → m = 0 → h' ≤ m → σ0 = σ → After0 C I β σ σ0 w .nl ((Instr.sliceAt t va vlo vhi (some (.int k 0))).run C.P w) := by
      intro l' h' m A h1 h2 h3 h4
      subst h4
      rw [h1]
      exact hi.after0 ⟨A, by rw [show h' - l' = 0 by omega, show m - l' = 0 by omega]⟩
    unfold opSlice at he0
    rw [hu0] at he0
    simp only at he0
    split at he0
    · rename_i l o u xs
      split at he0
      · rename_i hc
        simp only [Bool.and_eq_true] at hc
        split at he0
        · rename_i c l' h' hb
          simp only [Option.some.injEq, Prod.mk.injEq] at he0
          obtain ⟨rfl, rfl, rfl⟩ := he0
          obtain ⟨cs, hr, hv, _⟩ := ha
          obtain ⟨c1, rfl⟩ : ∃ c, cs = [c] := List.length_eq_one_iff.1 hr.len
          obtain rfl : va = c1 := hv
          obtain ⟨a, c, rfl, e2, e3, e4⟩ := sl_shape hr
          obtain ⟨m, hr', q1, q2, q3, q4, q5, q6⟩ := bnd_ok (C := C) true e2 hlo hhi hmx hb w
          exact fin (run_slice_sl (und_ok hu0) hc.1 hr') (bnd_zero hr') q3 rfl
        · simp at he0
      · simp at he0
    · rename_i r
      obtain ⟨f0, l, u, xs, h1, rfl⟩ := ha
      rw [h1] at he0
      cases f0 with
      | true => simp at he0
      | false =>
      simp only at he0
      split at he0
      · rename_i hc
        simp only [Bool.and_eq_true] at hc
        split at he0
        · rename_i c l' h' hb
          simp only [Option.some.injEq, Prod.mk.injEq] at he0
          obtain ⟨rfl, rfl, rfl⟩ := he0
          obtain ⟨a, c, e1, e2, e3, e4⟩ := sl_shape (hi.roots r _ h1).1
          obtain ⟨m, hr', q1, q2, q3, q4, q5, q6⟩ := bnd_ok (C := C) true e2 hlo hhi hmx hb w
          rw [e1] at fin ⊢
          exact fin (run_slice_sl (und_ok hu0) hc.1 hr') (bnd_zero hr') q3 rfl
        · simp at he0
      · simp at he0
    · rename_i r b n
      obtain ⟨f0, l, u, xs, h1, h2, h3⟩ := ha
      rw [h1] at he0
      cases f0 with
      | true => simp at he0
      | false =>
      simp only at he0
      split at he0
      · rename_i hc
        simp only [Bool.and_eq_true] at hc
        split at he0
        · rename_i c l' h' hb
          simp only [Option.some.injEq, Prod.mk.injEq] at he0
          obtain ⟨rfl, rfl, rfl⟩ := he0
          obtain ⟨a0, m0, c0, a', c', f1, rfl, f3, f4, f5⟩ := h3
          obtain ⟨m, hr', q1, q2, q3, q4, q5, q6⟩ := bnd_ok (C := C) true f3 hlo hhi hmx hb w
          exact fin (run_slice_sl (und_ok hu0) hc.1 hr') (bnd_zero hr') q3 rfl
        · simp at he0
      · simp at he0
    · split at he0
      · rename_i i hT
        split at he0
        · rename_i c l' h' hb
          simp only [Option.some.injEq, Prod.mk.injEq] at he0
          obtain ⟨rfl, rfl, rfl⟩ := he0
          obtain ⟨a0, rfl⟩ : ∃ a0, va = .slice a0 0 0 := ha
          obtain ⟨m, hr', q1, q2, q3, q4, q5, q6⟩ := bnd_ok (C := C) true (Nat.le_refl 0) hlo hhi hmx hb w
          have hn : szB C.T e' i.size = true := by simp [szB, hT]
          exact fin (run_slice_sl (und_ok hu0) hn hr') (bnd_zero hr') q3 rfl
        · simp at he0
      · simp at he0
    · simp at he0
  · cases he
theorem seg_in (l c : List Value) (of k m : Nat) (h1 : k + c.length ≤ m) (h2 : of + m ≤ l.length) :
    List.take m (List.drop of (List.take (of + k) l ++ c ++ List.drop (of + k + c.length) l)) = List.take k (List.take m (List.drop of l)) ++ c ++ List.drop (k + c.length) (List.take m (List.drop of l)) := by
  apply List.ext_getElem?
  intro i
  simp only [List.getElem?_append, List.getElem?_take, List.getElem?_drop, List.length_take, List.length_drop, List.length_append]
  by_cases a1 : i < k
  · have b1 : i < m := by omega
    have b2 : of + i < min (of + k) l.length := by omega
    have b3 : i < min k (min m (l.length - of)) := by omega
    have b4 : of + i < of + k := by omega
    have b5 : of + i < min (of + k) l.length + c.length := by omega
    have b6 : i < min k (min m (l.length - of)) + c.length := by omega
    simp only [b1, b2, b3, b4, b5, b6, a1, if_true]
  · by_cases a2 : i < k + c.length
    · have b1 : i < m := by omega
      have b2 : ¬ of + i < min (of + k) l.length := by omega
      have b3 : ¬ i < min k (min m (l.length - of)) := by omega
      have b5 : of + i < min (of + k) l.length + c.length := by omega
      have b6 : i < min k (min m (l.length - of)) + c.length := by omega
      have e : of + i - min (of + k) l.length = i - min k (min m (l.length - of)) := by omega
      simp only [b1, b2, b3, b5, b6, if_true, if_false, e]
    · have b5 : ¬ of + i < min (of + k) l.length + c.length := by omega
      have b6 : ¬ i < min k (min m (l.length - of)) + c.length := by omega
      have e1 : of + k + c.length + (of + i - (min (of + k) l.length + c.length)) = of + i := by omega
      have e2 : k + c.length + (i - (min k (min m (l.length - of)) + c.length)) = i := by omega
      simp only [b5, b6, if_false, e1, e2]
theorem RootR.wide {h : Hp} {L I : Set'} {v : Value} {R : Root} {X : List Nat} (l : Bool) (hr : RootR h L I v R X) : RootR h L I v (R.wide l) X := by
  have hS : ∀ l', ∀ b, Sx L I l' b → Sx L I (l' || l) b ∧ h b = h b := by
    rintro l' b (hb | ⟨h1, hb⟩)
    · exact ⟨.inl hb, rfl⟩
    · exact ⟨.inr ⟨by simp [h1], hb⟩, rfl⟩
  cases R with
  | box l' t a => exact Rep.keep (hS l') (fun _ _ => rfl) hr
  | arr f l' t xs => exact ⟨Rep.keep (hS l') (fun _ _ => rfl) hr.1, hr.2⟩
  | map l' k vt es z =>
    obtain ⟨b, ents, clock, X', e1, e2, e3, e4, e5⟩ := hr
    exact ⟨b, ents, clock, X', e1, e2, e3, RMz.mono_mem (fun _ _ => Rep.keep (hS l') (fun _ _ => rfl)) (fun _ _ _ _ => Rep.keep (hS l') (fun _ _ => rfl)) e4, e5⟩
theorem RootH.ext {h : Hp} {β : Nat → Value} {ρ ρ' : List (Nat × Root)} {v : Value} {R : Root} (hn : ∀ j, look ρ' j ≠ none → look ρ j ≠ none) (hr : RootH h β ρ v R) : RootH h β ρ' v R := by
  cases R with
  | box l t a => obtain ⟨b, arr, E', fr, g1, g2, g3⟩ := hr; exact ⟨b, arr, E', fr, g1, g2, fun p hp hl => g3 p hp (hn _ hl)⟩
  | arr _ _ _ _ => trivial
  | map l k vt es z =>
    cases z with
    | none => trivial
    | some p => obtain ⟨y, j⟩ := p; exact fun hl => hr (hn _ hl)
theorem look_upd_iff {ρ : List (Nat × Root)} {r : Nat} {R R' : Root} (h : look ρ r = some R) (j : Nat) : look (upd ρ r R') j ≠ none → look ρ j ≠ none := by
  by_cases e : j = r
  · subst e; intro _; rw [h]; simp
  · rw [look_upd_ne e]; exact fun h => h
theorem calm_any {h : Hp} {S : Set'} {l : Bool} : ∀ {t : Ty} {x : den t} {cs : List Value}, calmT t = true → Rep h S true t x cs [] → Rep h S l t x cs []
  | .hole _, _, _, _, hr => hr
  | .pair a b, _, _, hf, ⟨c1, c2, X1, X2, h1, h2, h3, h4⟩ => by
    simp only [calmT, Bool.and_eq_true] at hf
    obtain ⟨rfl, rfl⟩ : X1 = [] ∧ X2 = [] := by simpa using h2
    exact ⟨c1, c2, [], [], h1, rfl, calm_any hf.1 h3, calm_any hf.2 h4⟩
  | .int _, _, _, hf, hr | .bool, _, _, hf, hr | .str, _, _, hf, hr | .unit, _, _, hf, hr | .arr _ _, _, _, hf, hr | .sl _ _, _, _, hf, hr | .ptr _ _, _, _, hf, hr | .ref _ _, _, _, hf, hr
  | .map _ _ _, _, _, hf, hr | .raw _ _, _, _, hf, hr | .nils, _, _, hf, hr | .nilp, _, _, hf, hr => rep_any hf hr
theorem flat_calm : ∀ {t : Ty}, t.flat = true → calmT t = true
  | .hole _, h => rfl
  | .pair a b, h => by
    simp only [Ty.flat, Bool.and_eq_true] at h
    simp [calmT, flat_calm h.1, flat_calm h.2]
  | .int _, h | .bool, h | .str, h | .unit, h | .arr _ _, h | .sl _ _, h | .ptr _ _, h | .ref _ _, h
  | .map _ _ _, h | .raw _ _, h | .nils, h | .nilp, h => h
theorem root_put {h h' : Hp} {L I : Set'} {β : Nat → Value} {ρ : List (Nat × Root)} {v : Value} {R R' : Root} {X : List Nat} {s : List Sel} {u : Ty} {y : den u} {c : List Value} (hs : R.put s u y = some R') (hf : calmT u = true) (hok : R.ok s)
    (hr : RootR h L I v R X) (hH : RootH h β ρ v R) (hX : X.Nodup) (hX2 : ∀ b ∈ X, ¬ I b ∧ ¬ L b) (hy : Rep h (Sx L I R.len) true u y c []) (hyH : Holes β ρ u c) {o b base : Nat} {a : Ty} {arr arr' : Array Value} {E' : TypeId} {fr : Nat × Nat}
    (ho : R.off s = some (o, a)) (hb : h b = some (.cells arr E' fr)) (hp : ptrOf v 0 = .pointer (some ⟨b, base, none⟩))
    (hb' : h' b = some (.cells arr' E' fr)) (hsz : arr'.size = arr.size) (hl : arr'.toList = arr.toList.take (base + o) ++ c ++ arr.toList.drop (base + o + u.size)) (hk : ∀ k, k ≠ b → h' k = h k) :
    R.like R' ∧ ∃ Y, (∀ b' ∈ Y, b' ∈ X) ∧ Y.Nodup ∧ RootR h' L I v R' Y ∧ RootH h' β ρ v R' := by
  have hlift : ∀ {S : Set'}, (∀ k, S k → I k ∨ L k) → b ∈ X → ∀ k, S k → S k ∧ h' k = h k := by
    intro S hS hbX k hk'
    refine ⟨hk', hk k ?_⟩
    rintro rfl
    rcases hS k hk' with h | h
    · exact (hX2 k hbX).1 h
    · exact (hX2 k hbX).2 h
  have hSx : ∀ l k, Sx L I l k → I k ∨ L k := by
    rintro l k (h | ⟨_, h⟩)
    · exact .inl h
    · exact .inr h
  cases R with
  | map _ _ _ _ _ => simp [Root.put] at hs
  | box l t x =>
    simp only [Root.put] at hs
    cases hz : selPut s u y t x with
    | none => simp [hz] at hs
    | some z =>
      simp [hz] at hs
      subst hs
      obtain ⟨b1, ob, arr1, E1, fr1, X', e1, e2, e3, e4, e5⟩ := hr
      simp only [Bool.and_true, if_true, Bool.not_false] at e5
      obtain ⟨rfl, f2, rfl, f4⟩ := e5
      simp only [List.cons.injEq, and_true] at e1
      subst e1
      simp only [ptrOf, Value.pointer.injEq, Option.some.injEq, Addr.mk.injEq, and_true] at hp
      obtain ⟨rfl, rfl⟩ := hp
      rw [hb] at e2
      simp only [Option.some.injEq, Obj.cells.injEq] at e2
      obtain ⟨rfl, rfl, rfl⟩ := e2
      obtain ⟨b2, arr2, E2, fr2, k1, k2, k3⟩ := hH
      simp only [Value.pointer.injEq, Option.some.injEq, Addr.mk.injEq, and_true] at k1
      subst k1
      rw [hb] at k2
      simp only [Option.some.injEq, Obj.cells.injEq] at k2
      obtain ⟨rfl, rfl, rfl⟩ := k2
      obtain ⟨o', a', h1, h2, h3, h4, h5⟩ := selPut_rep (h := h) (S := Sx L I l) hz
      simp only [Root.off] at ho
      rw [ho] at h1
      simp only [Option.some.injEq, Prod.mk.injEq] at h1
      obtain ⟨rfl, rfl⟩ := h1
      have hau := layB_size h2
      have htz := layB_size h3
      have hle := selOff_le ho hok
      have hall : (arr.toList.drop 0).take t.size = arr.toList := by rw [List.drop_zero, List.take_of_length_le (by simp [f4])]
      have hall' : (arr'.toList.drop 0).take z.t.size = arr'.toList := by rw [List.drop_zero, List.take_of_length_le (by simp [hsz, f4, htz])]
      simp only [Bool.not_true, Bool.or_self, Bool.or_false] at e4
      rw [hall] at e4
      obtain ⟨A, Y0, B, g1, g2, g3⟩ := h5 false arr.toList X' hok e4
      have g4 := g3 c [] (calm_any hf hy)
      have hsub : ∀ k ∈ A ++ [] ++ B, k ∈ X' := by intro k hk'; rw [g1]; simp at hk' ⊢; rcases hk' with h | h <;> simp [h]
      have hndX' : X'.Nodup := (List.nodup_cons.1 hX).2
      have hnd : (A ++ [] ++ B).Nodup := by
        rw [g1] at hndX'
        refine hndX'.sublist ?_
        simp
      refine ⟨h3, b1 :: (A ++ [] ++ B), ?_, ?_, ?_, ?_⟩
      · intro k hk'
        rcases List.mem_cons.1 hk' with rfl | hk'
        · simp
        · exact List.mem_cons_of_mem _ (hsub k hk')
      · exact List.nodup_cons.2 ⟨fun hm => (List.nodup_cons.1 hX).1 (hsub _ hm), hnd⟩
      · refine ⟨b1, 0, arr', E', fr, A ++ [] ++ B, rfl, hb', by omega, ?_, ?_⟩
        · rw [hall', hl]
          simp only [Nat.zero_add, Bool.not_true, Bool.or_self, Bool.or_false]
          rw [← hau]
          exact Rep.keep (hlift (hSx l) (by simp)) (fun k hk' => hk k (by rintro rfl; exact (List.nodup_cons.1 hX).1 (hsub _ hk'))) g4
        · rw [if_pos (by rfl)]
          exact ⟨rfl, by rw [hsz]; exact f2, rfl, by rw [hsz, f4, htz]⟩
      · refine ⟨b1, arr', E', fr, rfl, hb', fun p hpm hlk => ?_⟩
        have hc0 : c.length = u.size := hy.len
        have hA : arr.toList.length = arr.size := by simp
        have hlen1 : (List.take o arr.toList).length = o := by rw [List.length_take]; omega
        rw [hl]
        simp only [Nat.zero_add]
        rcases h4 hok p hpm with ⟨q1, q2⟩ | q1
        · rw [← k3 p q1 hlk]
          rcases q2 with q2 | q2
          · rw [List.getElem?_append_left (by simp; omega), List.getElem?_append_left (by omega), List.getElem?_take, if_pos q2]
          · rw [List.getElem?_append_right (by simp; omega), List.getElem?_drop]
            congr 1
            simp; omega
        · rw [holesOf_shift] at q1
          obtain ⟨q, q3, rfl⟩ := List.mem_map.1 q1
          have q2 := (holesOf_lt q3).2
          rw [← hyH q q3 hlk, List.getElem?_append_left (by rw [List.length_append, hlen1]; simp only; omega), List.getElem?_append_right (by rw [hlen1]; simp only; omega), hlen1]
          congr 1
          simp only; omega
  | arr f l t xs =>
    cases s with
    | nil => simp [Root.put] at hs
    | cons q s => cases q with
      | f i => simp [Root.put] at hs
      | i n =>
        simp only [Root.put] at hs
        cases hfu : u.flat with
        | false => rw [hfu] at hs; simp at hs
        | true =>
        rw [hfu] at hs
        simp only at hs
        cases hz : selSet s u y t (xs.getD n (dflt t)) with
        | none => rw [hz] at hs; simp at hs
        | some z =>
          rw [hz] at hs; simp at hs
          subst hs
          obtain ⟨hn, hok⟩ := hok
          obtain ⟨hr, hfull⟩ := hr
          obtain ⟨b1, of, c1, arr1, E1, fr1, X', rfl, g2, g3, g4, g5, g6⟩ := sl_block hr (by omega)
          simp only [Bool.and_true, if_true, Bool.not_false] at g6
          obtain ⟨rfl, g7⟩ := g6
          simp only [ptrOf, Value.pointer.injEq, Option.some.injEq, Addr.mk.injEq, and_true, Nat.add_zero] at hp
          obtain ⟨rfl, rfl⟩ := hp
          rw [hb] at g3
          simp only [Option.some.injEq, Obj.cells.injEq] at g3
          obtain ⟨rfl, rfl, rfl⟩ := g3
          obtain ⟨o', h1, h2⟩ := selSet_rep (h := h) (S := Sx L I l) hz hfu
          simp only [Root.off, h1] at ho
          simp only [Option.some.injEq, Prod.mk.injEq] at ho
          obtain ⟨rfl, rfl⟩ := ho
          have hc0 : c.length = u.size := hy.len
          have hle := selOff_le h1 hok
          have hm : n * t.size + t.size ≤ xs.length * t.size := by rw [← Nat.succ_mul]; exact Nat.mul_le_mul_right _ hn
          have hm2 : xs.length * t.size ≤ c1 * t.size := Nat.mul_le_mul_right _ g2
          simp only [Bool.not_true, Bool.or_self, Bool.or_false] at g5
          have h3 := RL.set (fun _ _ _ => Rep.len) (dflt t) n z _ hn (fun Y hY => h2 false _ Y hok hY c (rep_any hfu hy)) g5
          rw [seg_seg _ c (n * t.size) t.size o' u.size hle (by rw [RL.len (fun _ _ _ => Rep.len) g5]; exact hm)] at h3
          refine ⟨by simp [Root.like], b1 :: X', fun _ h => h, hX, ⟨⟨some ⟨b1, of, none⟩, c1, by simp, by simpa using g2, .inr ⟨b1, of, arr', E', fr, X', rfl, hb', by omega, ?_, ?_⟩⟩, ?_⟩, trivial⟩
          · have e : List.take ((List.set xs n z).length * t.size) (List.drop of arr'.toList) =
                List.take (n * t.size + o') (List.take (xs.length * t.size) (List.drop of arr.toList)) ++ c ++ List.drop (n * t.size + o' + u.size) (List.take (xs.length * t.size) (List.drop of arr.toList)) := by
              have hA : arr.toList.length = arr.size := by simp
              rw [hl, List.length_set, ← hc0]
              exact seg_in arr.toList c of (n * t.size + o') (xs.length * t.size) (by rw [hc0]; omega) (by rw [hA]; omega)
            rw [e]
            simp only [Bool.not_true, Bool.or_self, Bool.or_false]
            exact RL.mono_mem (fun x c Y _ hY hr => Rep.keep (hlift (hSx l) (by simp)) (fun k hk' => hk k (by rintro rfl; exact (List.nodup_cons.1 hX).1 (hY _ hk'))) hr) h3
          · rw [if_pos (by rfl)]
            exact ⟨rfl, by rw [hsz]; exact g7⟩
          · intro hf'
            obtain ⟨a1, ha1⟩ := hfull hf'
            exact ⟨a1, by rw [List.length_set]; exact ha1⟩
end
end Go.Proofs.YthlpjdjipchdkaaDoor.E

namespace Go.Proofs.YthlpjdjipchdkaaDoor.E
open Go
set_option linter.unusedSimpArgs false
set_option linter.unusedVariables false
section
variable {C : Ctx} {I : Set'} {β : Nat → Value} {F : Nat → List Nat} {σ : St} {w : World} {tm : Array Value}
theorem ptr_back {v : Value} {b base o : Nat} (h : ptrOf v o = .pointer (some ⟨b, base + o, none⟩)) : ptrOf v 0 = .pointer (some ⟨b, base, none⟩) := by
  unfold ptrOf at h ⊢
  split at h
  · simp at h ⊢; omega
  · simp at h ⊢; omega
  · simp [undef] at h
theorem toV_len {len : Bool} {τ : Ty} {sv : SV} {a : den τ} (h : toV len τ sv = some a) : toV (anyLen [sv]) τ sv = some a := by
  cases sv with
  | v l t b =>
    simp only [toV, anyLen] at h ⊢
    cases hl : (!l || len) with
    | false => simp [hl] at h
    | true => simp only [hl] at h; cases l <;> simpa using h
  | q l t b =>
    simp only [toV, anyLen] at h ⊢
    cases τ with
    | ref o u =>
      cases o with
      | true => simp at h
      | false =>
        simp only at h ⊢
        cases hl : (!l || len) with
        | false => simp [hl] at h
        | true => simp only [hl] at h; cases l <;> simpa using h
    | ptr o u =>
      cases o with
      | true => simp at h
      | false =>
        simp only at h ⊢
        cases hl : (!l || len) with
        | false => simp [hl] at h
        | true => simp only [hl] at h; cases l <;> simpa using h
    | _ => simp at h
  | _ => exact h
theorem ownish_flat : ∀ {t : Ty}, ownish t = false → t.flat = true
  | .pair a b, h => by
    simp only [ownish, Bool.or_eq_false_iff] at h
    simp [Ty.flat, ownish_flat h.1, ownish_flat h.2]
  | .int _, h | .bool, h | .str, h | .unit, h | .arr _ _, h | .sl _ _, h | .ptr _ _, h | .ref _ _, h | .map _ _ _, h | .raw _ _, h | .hole _, h => by simpa [ownish] using h
  | .nils, h | .nilp, h => by simp [ownish] at h
theorem layT_ok (hi : Inv C I β F σ w tm) {len : Bool} {sv : SV} {v : Value} {u : Ty} {y : den u} (hs : SVR (hpOf w) C.L I β σ.r sv v) (he : layT σ len sv = some ⟨u, y⟩) :
    ∃ cs, Rep (hpOf w) (Sx C.L I (anyLen [sv])) true u y cs [] ∧ v = wrapV u cs ∧ Holes β σ.r u cs ∧ calmT u = true := by
  have hole : ∀ (k : Nat) (v : Value), v = β k → v.oneCell' = true → ∃ cs, Rep (hpOf w) (Sx C.L I (anyLen [sv])) true (.hole k) () cs [] ∧ v = wrapV (.hole k) cs ∧ Holes β σ.r (.hole k) cs ∧ calmT (.hole k) = true := by
    intro k v hv h1
    refine ⟨[v], ⟨⟨v, rfl, h1⟩, rfl⟩, rfl, ?_, rfl⟩
    intro p hp _
    simp [holesOf] at hp
    subst hp
    simp [hv]
  cases sv with
  | sf k =>
    obtain ⟨f, l, t, xs, h1, h2⟩ := hs
    simp only [layT, h1, Option.some.injEq, TV.mk.injEq] at he
    obtain ⟨rfl, he⟩ := he
    have := eq_of_heq he
    subst this
    refine hole k v h2 ?_
    obtain ⟨⟨a, c, e1, _⟩, _⟩ := hi.roots k _ h1
    simp only [List.cons.injEq, and_true] at e1
    rw [h2, e1]; rfl
  | p k s =>
    cases s with
    | cons _ _ => simp [layT] at he
    | nil =>
      obtain ⟨R, o, t, h1, h2, h3, h4⟩ := hs
      cases R with
      | arr _ _ _ _ => simp [layT, h1] at he
      | map _ _ _ _ _ => simp [layT, h1] at he
      | box l t' a =>
        simp only [layT, h1, Option.some.injEq, TV.mk.injEq] at he
        obtain ⟨rfl, he⟩ := he
        have := eq_of_heq he
        subst this
        simp only [Root.off, selOff, Option.some.injEq, Prod.mk.injEq] at h2
        obtain ⟨rfl, rfl⟩ := h2
        rw [hi.ptr0 k l _ a h1] at h4
        obtain ⟨b, arr, E', fr, g1, _⟩ := hi.holes k _ h1
        exact hole k v h4 (by rw [h4, g1]; rfl)
  | mp k =>
    obtain ⟨l, kt, vt, es, z, h1, h2⟩ := hs
    simp only [layT, h1, Option.some.injEq, TV.mk.injEq] at he
    obtain ⟨rfl, he⟩ := he
    have := eq_of_heq he
    subst this
    obtain ⟨b, ents, clock, X', e1, _⟩ := hi.roots k _ h1
    exact hole k v h2 (by rw [h2, e1]; rfl)
  | nl =>
    simp only [layT, Option.some.injEq, TV.mk.injEq] at he
    obtain ⟨rfl, he⟩ := he
    have := eq_of_heq he
    subst this
    obtain ⟨a, rfl⟩ := hs
    exact ⟨[.slice a 0 0], ⟨⟨a, rfl⟩, rfl⟩, rfl, Holes.solid rfl, rfl⟩
  | np =>
    simp only [layT, Option.some.injEq, TV.mk.injEq] at he
    obtain ⟨rfl, he⟩ := he
    have := eq_of_heq he
    subst this
    exact ⟨[.pointer none], ⟨rfl, rfl⟩, hs, Holes.solid rfl, rfl⟩
  | v l t a =>
    simp only [layT] at he
    cases hc : (calmT t && (!l || len)) with
    | false => simp [hc] at he
    | true =>
      simp only [hc, Option.some.injEq, TV.mk.injEq] at he
      obtain ⟨rfl, he⟩ := he
      have := eq_of_heq he
      subst this
      simp only [Bool.and_eq_true] at hc
      obtain ⟨cs, g1, g2, g3⟩ := hs
      refine ⟨cs, ?_, g2, g3, hc.1⟩
      have : anyLen [SV.v l t a] = l := by simp [anyLen]
      rw [this]; exact g1
  | _ => simp [layT] at he
theorem wide_off (R : Root) (l : Bool) (s : List Sel) : (R.wide l).off s = R.off s := by cases R <;> rfl
theorem wide_ok (R : Root) (l : Bool) (s : List Sel) : (R.wide l).ok s = R.ok s := by cases R <;> rfl
theorem wide_len (R : Root) (l : Bool) : (R.wide l).len = (R.len || l) := by cases R <;> rfl
theorem wide_like (R : Root) (l : Bool) {R' : Root} (h : (R.wide l).like R') : R.like R' := by cases R <;> cases R' <;> exact h
theorem wide_holes {h : Hp} {β : Nat → Value} {ρ : List (Nat × Root)} {v : Value} {R : Root} (l : Bool) (hr : RootH h β ρ v R) : RootH h β ρ v (R.wide l) := by cases R <;> exact hr
theorem put_size {R R' : Root} {s : List Sel} {u : Ty} {y : den u} (h : R.put s u y = some R') {o : Nat} {a : Ty} (ho : R.off s = some (o, a)) : a.size = u.size := by
  cases R with
  | map _ _ _ _ _ => simp [Root.put] at h
  | box l t x =>
    simp only [Root.put] at h
    cases hz : selPut s u y t x with
    | none => simp [hz] at h
    | some z =>
      obtain ⟨o', a', h1, h2, _⟩ := selPut_rep (h := fun _ => none) (S := fun _ => False) hz
      simp only [Root.off] at ho
      rw [ho] at h1
      simp only [Option.some.injEq, Prod.mk.injEq] at h1
      obtain ⟨_, rfl⟩ := h1
      exact layB_size h2
  | arr f l t xs =>
    cases s with
    | nil => simp [Root.put] at h
    | cons q s => cases q with
      | f i => simp [Root.put] at h
      | i n =>
        simp only [Root.put] at h
        cases hfu : u.flat with
        | false => rw [hfu] at h; simp at h
        | true =>
        rw [hfu] at h
        simp only at h
        cases hz : selSet s u y t (xs.getD n (dflt t)) with
        | none => rw [hz] at h; simp at h
        | some z =>
          obtain ⟨o', h1, _⟩ := selSet_rep (h := fun _ => none) (S := fun _ => False) hz hfu
          simp only [Root.off, h1, Option.some.injEq, Prod.mk.injEq] at ho
          rw [ho.2]
theorem store_put (hi : Inv C I β F σ w tm) {r : Nat} {s : List Sel} {va : Value} {R R' : Root} {t : TypeId} {l : Bool} {u : Ty} {y : den u} {cs : List Value} (ha : SVR (hpOf w) C.L I β σ.r (.p r s) va) (hl : look σ.r r = some R)
    (hfit : fits C.T t u = true) (hcalm : calmT u = true) (hy : Rep (hpOf w) (Sx C.L I (R.wide l).len) true u y cs []) (hH : Holes β σ.r u cs) (hput : (R.wide l).put s u y = some R') :
    ∃ w' F', (Instr.storeAt t va (wrapV u cs)).run C.P w = .ok () w' ∧ Inv C I β F' { t := σ.t, c := σ.c, r := upd σ.r r R', n := σ.n, b := σ.b, k := σ.k } w' tm ∧ w'.heap.size = w.heap.size ∧ (∀ b, b ∉ F r → hpOf w' b = hpOf w b) := by
  have ha0 := ha
  obtain ⟨R1, o, a, b, base, arr, E', fr, h1, h2, h3, rfl, h5, h6, h7, h8, h9, h10⟩ := place hi ha
  rw [hl] at h1
  obtain rfl := Option.some.inj h1
  have hsz0 := put_size hput (by rw [wide_off]; exact h2)
  have hlen := hy.len
  have hone := hy.one
  have hcells := wrapV_cells hy
  obtain ⟨w', arr', g1, g2, g3, g4, g5, g6, g7⟩ := run_store_cells (C := C) (b := b) (o := base + o) (E := E') (fr := fr) cs 0 arr w h5 h6 (by rw [hlen]; omega) hone
  have hfit' : szB C.T t u.size = true := by simp only [fits, Bool.and_eq_true] at hfit; exact hfit.1
  obtain ⟨p1, Y, p2, p3, p4, p5⟩ := root_put (h' := hpOf w') hput hcalm (by rw [wide_ok]; exact h3) ((hi.roots r _ hl).wide l) (wide_holes l (hi.holes r _ hl)) (hi.nodup r _ hl) (fun k hk => hi.away hl k hk) hy hH
    (by rw [wide_off]; exact h2) h5 (by
      obtain ⟨R3, o3, u3, e1, e2, e3, e4⟩ := ha0
      rw [hl] at e1
      obtain rfl := Option.some.inj e1
      rw [h2] at e2
      simp only [Option.some.injEq, Prod.mk.injEq] at e2
      obtain ⟨rfl, rfl⟩ := e2
      exact ptr_back e4.symm) g2 g3 (by rw [g4, hlen]; simp) g5
  refine ⟨w', updF F r Y, ?_, ?_, g6, fun k hk => g5 k (by rintro rfl; exact hk h7)⟩
  · have hsz : (wrapV u cs).cells.size = u.size := by rw [← hlen, ← Array.length_toList, hcells]
    simp only [Instr.storeAt, Instr.sureAddr, Sem.run_bind, Sem.run_pure, Result.andThen_ok, storeVar, run_size hfit', hsz, ne_eq, not_true_eq_false, if_false, hcells]
    exact g1
  · exact hi.write hl (wide_like R l p1) (by omega) g7 (fun k _ hk => g5 k (by rintro rfl; exact hk h7)) p2 p3 p4 (p5.ext (look_upd_iff hl))
theorem opStore_ok (hi : Inv C I β F σ w tm) {t : TypeId} {a v sv : SV} {σ' : St} {va vv : Value}
    (ha : SVR (hpOf w) C.L I β σ.r a va) (hv : SVR (hpOf w) C.L I β σ.r v vv) (he : opStore C.T t a v σ = some (true, sv, σ')) :
    ∃ w' I' F', (Instr.storeAt t va vv).run C.P w = .ok () w' ∧ Inv C I' β F' σ' w' tm ∧ sv = .x ∧ (∀ b, I b → I' b) ∧ w.heap.size ≤ w'.heap.size ∧ (∀ r s, a = .p r s → ∀ b, b ∉ F r → hpOf w' b = hpOf w b) := by
  unfold opStore at he
  split at he
  · rename_i r s
    split at he
    · rename_i ρ0 hl0
      split at he
      · rename_i l0 o0 τ x0 hg0
        split at he
        · rename_i hown
          have hflat := ownish_flat hown
          split at he
          rename_i v' σ1 hsh
          split at he
          · rename_i R hl
            obtain ⟨I', hi1, hv1, hless⟩ := shared_ok hi hv hsh
            have ha1 := hless.svr (h := hpOf w) (L := C.L) (β := β) (fun k hu => .inl (by simp [SV.uses, SV.uses0] at hu; subst hu; rw [hl]; simp)) ha
            split at he
            · rename_i hf
              split at he
              · rename_i y hy
                split at he
                · rename_i R2 hput
                  simp only [Option.some.injEq, Prod.mk.injEq, true_and] at he
                  obtain ⟨rfl, rfl⟩ := he
                  obtain ⟨cs, hr, rfl⟩ := toV_ok (toV_len hy) hv1
                  have hr2 : Rep (hpOf w) (Sx C.L I' (R.wide (anyLen [v'] && !τ.plain)).len) true τ y cs [] := by
                    rw [wide_len]
                    cases hp : τ.plain with
                    | true => exact plain_rep hp hr
                    | false =>
                      refine Rep.keep (fun b hb => ⟨?_, rfl⟩) (fun _ _ => rfl) hr
                      rcases hb with hb | ⟨hb, hb'⟩
                      · exact .inl hb
                      · exact .inr ⟨by simp [hb], hb'⟩
                  obtain ⟨w', F', p1, p2, p3, p4⟩ := store_put hi1 ha1 hl hf (flat_calm hflat) hr2 (Holes.solid (flat_solid hflat)) hput
                  exact ⟨w', I', F', p1, p2, rfl, hless.sub, by omega, fun r' s' h => by cases h; exact p4⟩
                · simp at he
              · simp at he
            · simp at he
          · simp at he
        · split at he
          · rename_i u y hlay
            obtain ⟨cs, hr, rfl, hH, hcalm⟩ := layT_ok hi hv hlay
            split at he
            · rename_i hf
              split at he
              · rename_i R2 hput
                simp only [Option.some.injEq, Prod.mk.injEq, true_and] at he
                obtain ⟨rfl, rfl⟩ := he
                have hr2 : Rep (hpOf w) (Sx C.L I (ρ0.wide (anyLen [v])).len) true u y cs [] := by
                  rw [wide_len]
                  refine Rep.keep (fun b hb => ⟨?_, rfl⟩) (fun _ _ => rfl) hr
                  rcases hb with hb | ⟨hb, hb'⟩
                  · exact .inl hb
                  · exact .inr ⟨by simp [hb], hb'⟩
                obtain ⟨w', F', p1, p2, p3, p4⟩ := store_put hi ha hl0 hf hcalm hr2 hH hput
                exact ⟨w', I, F', p1, p2, rfl, fun _ h => h, by omega, fun r' s' h => by cases h; exact p4⟩
              · simp at he
            · simp at he
          · simp at he
      · simp at he
    · simp at he
  · simp at he
theorem new_same {d : Nat} {R : Root} {v : Value} {k : Nat} (hk : k ≠ d) : Same β (updF β d v) σ.r (σ.new d R).r k := by
  simp only [Same, St.new, look_cons_ne hk, look_del_ne hk, updF_ne β v hk]
  exact ⟨LikeO.refl _, by simp⟩
theorem new_after (hi : Inv C I β F σ w tm) {d : Nat} {R : Root} {v : Value} {cells : Array Value} {E' : TypeId} {fr : Nat × Nat} {w' : World} (hfree : freeN d σ.r = true)
    (h1 : hpOf w' w.heap.size = some (.cells cells E' fr)) (h2 : ∀ k, k < w.heap.size → hpOf w' k = hpOf w k) (h3 : w'.heap.size = w.heap.size + 1) (hz : restOf w' = restOf w)
    (hR : RootR (hpOf w') C.L I v R [w.heap.size]) (hH : RootH (hpOf w') (updF β d v) (σ.new d R).r v R) : Inv C I (updF β d v) (updF F d [w.heap.size]) (σ.new d R) w' tm := by
  refine hi.new d R v [w.heap.size] hfree (by omega) hz (fun b hb _ => h2 b hb) hR hH (by simp) ?_ ?_
  · intro b hb
    simp at hb
    subst hb
    have hg := hi.grow
    refine ⟨fun h => ?_, fun h => ?_, by omega, .inr hg⟩
    · have := (hi.shared _ h).1; omega
    · have := (C.Lok _ h).1; omega
  · intro k R' hne hl b hb hm
    simp at hm
    subst hm
    have := (hi.own k R' hl _ hb).2.2.1
    omega
theorem box_after (hi : Inv C I β F σ w tm) {d : Nat} {l : Bool} {τ : Ty} {x : den τ} {cs : List Value} {E' : TypeId} (hfree : freeN d σ.r = true) (hin : holeIn d τ = false) (hr : Rep (hpOf w) (Sx C.L I l) false τ x cs []) (hH : Holes β σ.r τ cs) :
    Inv C I (updF β d (.pointer (some ⟨w.heap.size, 0, none⟩))) (updF F d [w.heap.size]) (σ.new d (.box l τ x)) (w.alloc (.cells cs.toArray E')) tm ∧
      SVR (hpOf (w.alloc (.cells cs.toArray E'))) C.L I (updF β d (.pointer (some ⟨w.heap.size, 0, none⟩))) (σ.new d (.box l τ x)).r (.p d []) (.pointer (some ⟨w.heap.size, 0, none⟩)) := by
  obtain ⟨h1, h2, h3⟩ := hp_alloc (w := w) (.cells cs.toArray E')
  have hlen := hr.len
  constructor
  · refine new_after hi hfree h1 h2 h3 rfl ?_ ?_
    · refine ⟨w.heap.size, 0, cs.toArray, E', (0, 0), [], rfl, h1, by simp [hlen], ?_, ?_⟩
      · have : List.take τ.size (List.drop 0 cs.toArray.toList) = cs := by simp [← hlen]
        rw [this]
        refine Rep.keep (fun b hb => ⟨hb, h2 b ?_⟩) (fun _ hb => by simp at hb) hr
        rcases hb with hb | ⟨_, hb⟩
        · exact (hi.shared b hb).1
        · exact Nat.lt_of_lt_of_le (C.Lok b hb).1 hi.grow
      · rw [if_pos (by rfl)]
        exact ⟨rfl, .inl rfl, rfl, by simp [hlen]⟩
    · refine ⟨w.heap.size, cs.toArray, E', (0, 0), rfl, h1, ?_⟩
      exact hH.mono fun k hk => new_same (by rintro rfl; rw [hin] at hk; cases hk)
  · exact ⟨.box l τ x, 0, τ, look_cons_same, rfl, trivial, by rw [updF_same]; rfl⟩
theorem arr_after (hi : Inv C I β F σ w tm) {w' : World} {d : Nat} {l : Bool} {u : Ty} {xs : List (den u)} {cs : List Value} {E' : TypeId} {arr : Array Value} {fr : Nat × Nat} {cap : Nat} (hfree : freeN d σ.r = true) (hf : u.flat = true)
    (h1 : hpOf w' w.heap.size = some (.cells arr E' fr)) (h2 : ∀ k, k < w.heap.size → hpOf w' k = hpOf w k) (h3 : w'.heap.size = w.heap.size + 1) (hz : restOf w' = restOf w)
    (hr : RL (Rep (hpOf w) (Sx C.L I l) true u) xs cs []) (hcap : xs.length ≤ cap) (hsz : cap * u.size ≤ arr.size) (hc : calmS u arr.size fr) (htake : arr.toList.take (xs.length * u.size) = cs) :
    Inv C I (updF β d (.slice (some ⟨w.heap.size, 0, none⟩) xs.length cap)) (updF F d [w.heap.size]) (σ.new d (.arr false l u xs)) w' tm ∧
      SVR (hpOf w') C.L I (updF β d (.slice (some ⟨w.heap.size, 0, none⟩) xs.length cap)) (σ.new d (.arr false l u xs)).r (.sf d) (.slice (some ⟨w.heap.size, 0, none⟩) xs.length cap) := by
  constructor
  · refine new_after hi hfree h1 h2 h3 hz ⟨?_, by simp⟩ trivial
    refine ⟨some ⟨w.heap.size, 0, none⟩, cap, rfl, hcap, .inr ⟨w.heap.size, 0, arr, E', fr, [], rfl, h1, by omega, ?_, ?_⟩⟩
    · rw [List.drop_zero, htake]
      exact RL.mono_mem (fun x c Y _ hY hr => by
        have : Y = [] := by cases Y with | nil => rfl | cons b Y => exact absurd (hY b (by simp)) (by simp)
        subst this
        refine rep_any hf (Rep.keep (fun b hb => ⟨hb, h2 b ?_⟩) (fun _ hb => by simp at hb) hr)
        rcases hb with hb | ⟨_, hb⟩
        · exact (hi.shared b hb).1
        · exact Nat.lt_of_lt_of_le (C.Lok b hb).1 hi.grow) hr
    · rw [if_pos (by rfl)]
      exact ⟨rfl, hc⟩
  · exact ⟨false, l, u, xs, look_cons_same, by rw [updF_same]⟩
theorem zT_rep {h : Hp} {S : Set'} : ∀ {t : Ty}, zOkH t = true → ∀ l, Rep h S l (zT t) (zV t) (zeroC t) []
  | .pair a b, hz, l => by
    simp only [zOkH, Bool.and_eq_true] at hz
    exact ⟨_, _, [], [], rfl, rfl, zT_rep hz.1 l, zT_rep hz.2 l⟩
  | .ref _ _, _, _ => ⟨⟨_, rfl, rfl⟩, rfl⟩
  | .map _ _ _, _, _ => ⟨⟨_, rfl, rfl⟩, rfl⟩
  | .sl true _, _, _ => ⟨⟨_, rfl⟩, rfl⟩
  | .sl false t, _, l => Rep.dflt (t := .sl false t) rfl l
  | .ptr true _, _, _ => ⟨rfl, rfl⟩
  | .ptr false t, _, l => Rep.dflt (t := .ptr false t) rfl l
  | .arr n t, hz, l => Rep.dflt (t := .arr n t) hz l
  | .int _, _, _ | .bool, _, _ | .str, _, _ | .unit, _, _ => ⟨rfl, rfl⟩
theorem zT_holes : ∀ {t : Ty} {o : Nat}, zOkH t = true → ∀ p ∈ holesOf (zT t) o, p.2 = 999999999
  | .pair a b, o, hz, p, hp => by
    simp only [zOkH, Bool.and_eq_true] at hz
    simp only [zT, holesOf, List.mem_append] at hp
    rcases hp with hp | hp
    · exact zT_holes hz.1 p hp
    · exact zT_holes hz.2 p hp
  | .ref _ _, _, _, p, hp | .map _ _ _, _, _, p, hp => by simp [zT, holesOf] at hp; rw [hp]
  | .sl true _, _, _, p, hp | .sl false t, _, _, p, hp | .ptr true _, _, _, p, hp | .ptr false t, _, _, p, hp | .arr n t, _, _, p, hp | .int _, _, _, p, hp | .bool, _, _, p, hp | .str, _, _, p, hp | .unit, _, _, p, hp => by simp [zT, holesOf] at hp
theorem nul_holes {t : Ty} (hz : zOkH t = true) (hn : nul σ = true) (cs : List Value) : Holes β σ.r (zT t) cs := by
  intro p hp hl
  rw [zT_holes hz p hp] at hl
  unfold nul at hn
  cases hq : look σ.r 999999999 with
  | none => exact (hl hq).elim
  | some R => rw [hq] at hn; cases hn
theorem opAlloc_ok (hi : Inv C I β F σ w tm) {dst : Option Nat} {t : TypeId} {τ : Ty} {sv : SV} {σ' : St} (he : opAlloc C.T dst t τ σ = some (true, sv, σ')) :
    After C I (fun _ => False) σ' w tm sv ((Instr.alloc t true (.tuple #[])).run C.P w) := by
  unfold opAlloc at he
  split at he
  · rename_i d
    split at he
    · rename_i hz
      simp only [Bool.and_eq_true, Bool.not_eq_true'] at hz
      simp only [Option.some.injEq, Prod.mk.injEq, true_and] at he
      obtain ⟨rfl, rfl⟩ := he
      obtain ⟨hzo, j, z, e1, e2, e3⟩ := zeroH_ok hz.1.1
      have hcells : z.cells = (zeroC τ).toArray := by rw [← e3]
      have hrun : (Instr.alloc t true (.tuple #[])).run C.P w = .ok (.pointer (some ⟨w.heap.size, 0, none⟩)) (w.alloc (.cells (zeroC τ).toArray t)) := by
        simp [Instr.alloc, zeroValue, typeInfo, e1, e2, newVar, newRow, hcells]
      obtain ⟨a, b⟩ := box_after (d := σ.b + d) (l := false) (E' := t) hi hz.1.2 hz.2.2 (zT_rep hzo false) (nul_holes hzo hz.2.1 _)
      exact ⟨_, _, I, _, _, hrun, a, b, fun _ h => h, by simp, fun k hk _ => (hp_alloc (w := w) _).2.1 k hk⟩
    · simp at he
  · simp at he
theorem opBox_ok (hi : Inv C I β F σ w tm) {dst : Option Nat} {t : TypeId} {τ : Ty} {a sv : SV} {σ' : St} {va : Value} (ha : SVR (hpOf w) C.L I β σ.r a va) (he : opBox dst τ a σ = some (true, sv, σ')) :
    After C I (fun _ => False) σ' w tm sv ((Instr.box t va).run C.P w) := by
  have hrun : ∀ {τ : Ty} {x : den τ} {cs : List Value} {S : Set'} {l : Bool} {X : List Nat}, Rep (hpOf w) S l τ x cs X → (Instr.box t (wrapV τ cs)).run C.P w = .ok (.pointer (some ⟨w.heap.size, 0, none⟩)) (w.alloc (.cells cs.toArray t)) := by
    intro τ x cs S l X hr
    have hcells := wrapV_cells hr
    have hcells' : (wrapV τ cs).cells = cs.toArray := by apply Array.toList_inj.1; rw [hcells]
    simp [Instr.box, newVar, newRow, hcells']
  unfold opBox at he
  split at he
  · rename_i d
    split at he
    · split at he
      · rename_i l τ' x σ1 hsh
        split at he
        · rename_i hf
          simp only [Bool.and_eq_true] at hf
          simp only [Option.some.injEq, Prod.mk.injEq, true_and] at he
          obtain ⟨rfl, rfl⟩ := he
          obtain ⟨I', hi1, ⟨cs, hr, rfl, hH⟩, hless⟩ := shared_ok hi ha hsh
          have hin : holeIn (σ1.b + d) τ' = false := by
            cases hq : holeIn (σ1.b + d) τ' with
            | false => rfl
            | true =>
              obtain ⟨p, hp, _⟩ := (holeIn_iff (o := 0)).1 hq
              rw [solid_iff (flat_solid hf.1)] at hp
              simp at hp
          obtain ⟨a, b⟩ := box_after (d := σ1.b + d) (E' := t) hi1 hf.2 hin (rep_any hf.1 hr) hH
          exact ⟨_, _, I', _, _, hrun hr, a, b, hless.sub, by simp, fun k hk _ => (hp_alloc (w := w) _).2.1 k hk⟩
        · simp at he
      · simp at he
    · split at he
      · rename_i u y hlay
        split at he
        · rename_i hf
          simp only [Bool.and_eq_true, Bool.not_eq_true'] at hf
          simp only [Option.some.injEq, Prod.mk.injEq, true_and] at he
          obtain ⟨rfl, rfl⟩ := he
          obtain ⟨cs, hr, rfl, hH, hcalm⟩ := layT_ok hi ha hlay
          obtain ⟨a', b⟩ := box_after (d := σ.b + d) (E' := t) hi hf.1 hf.2 (calm_any hcalm hr) hH
          exact ⟨_, _, I, _, _, hrun hr, a', b, fun _ h => h, by simp, fun k hk _ => (hp_alloc (w := w) _).2.1 k hk⟩
        · simp at he
      · simp at he
  · simp at he
theorem made_flat (z : Array Value) : ∀ c : Nat, (madeCells z (c * z.size)).toList = (List.replicate c z.toList).flatten := by
  intro c
  induction c with
  | zero => simp [madeCells]
  | succ c ih =>
    have e0 : (c + 1) * z.size = c * z.size + z.size := Nat.succ_mul c z.size
    rw [List.replicate_succ', List.flatten_append, ← ih]
    simp only [madeCells, Array.toList_map, Array.toList_range, e0, List.range_add, List.map_append, List.map_map, List.flatten_cons, List.flatten_nil, List.append_nil]
    congr 1
    apply List.ext_getElem?
    intro i
    simp only [List.getElem?_map, List.getElem?_range]
    by_cases h : i < z.size
    · have : (c * z.size + i) % z.size = i := by rw [Nat.mul_comm, Nat.mul_add_mod]; exact Nat.mod_eq_of_lt h
      simp [h, this]
    · simp [h]
theorem opMake_ok (hi : Inv C I β F σ w tm) {dst : Option Nat} {t : TypeId} {u : Ty} {n c sv : SV} {σ' : St} {vn vc : Value} (hn : SVR (hpOf w) C.L I β σ.r n vn) (hc : SVR (hpOf w) C.L I β σ.r c vc)
    (he : opMake C.T dst t u n c σ = some (true, sv, σ')) : After C I (fun _ => False) σ' w tm sv ((Instr.makeSlice t vn vc).run C.P w) := by
  unfold opMake at he
  split at he
  · rename_i d e ln kn n lc kc c hu
    change Int at n
    change Int at c
    obtain rfl := of_int hn
    obtain rfl := of_int hc
    split at he
    · rename_i hz
      simp only [Bool.and_eq_true, Bool.not_eq_true'] at hz
      obtain ⟨hz, hfree⟩ := hz
      simp only [Option.some.injEq, Prod.mk.injEq, makeB_iff] at he
      obtain ⟨⟨h0, h1, h2⟩, rfl, rfl⟩ := he
      obtain ⟨hzo, j, z, e1, e2, e3⟩ := zero_ok hz.1.1.2
      have hcells : z.cells.toList = zeroC u := e3
      have hb : bytesB C.T e = j.bytes ∧ j.size = u.size := by
        obtain ⟨j', f1, f2⟩ := sz_ok hz.1.1.1.1
        rw [e1] at f1
        obtain rfl := Option.some.inj f1
        refine ⟨?_, f2⟩
        unfold bytesB
        have := hz.1.1.1.1
        unfold szB at this
        cases hT : C.T e with
        | none => simp [hT] at this
        | some i =>
          obtain ⟨j2, z2, g1, g2, g3, _⟩ := (C.ok e i hT).2
          rw [e1] at g1
          obtain rfl := Option.some.inj g1
          exact g3.symm
      obtain ⟨hb, hsz⟩ := hb
      have hb1 : 1 ≤ j.bytes := by rw [← hb]; exact Nat.le_of_ble_eq_true hz.2
      rw [hb] at h2
      have hc2 : c ≤ c * (j.bytes : Int) := by
        have : c * 1 ≤ c * (j.bytes : Int) := Int.mul_le_mul_of_nonneg_left (by omega) (by omega)
        simpa using this
      have hrun := run_make (P := C.P) w t e j z (und_ok hu) e1 e2 kn kc n c h0 h1 (by rw [Int.mul_comm]; omega) (by omega)
      rw [hrun]
      have hzs : z.cells.size = u.size := by rw [← Array.length_toList, hcells]; exact (Rep.dflt (h := hpOf w) (S := Sx C.L I false) hzo true).len
      obtain ⟨a1, a2, a3⟩ := hp_alloc (w := w) (.cells (madeCells z.cells (c.toNat * j.size)) e)
      have hlen : (List.replicate n.toNat (dflt u)).length = n.toNat := by simp
      have hnc : n.toNat ≤ c.toNat := by omega
      have hle : n.toNat * u.size ≤ c.toNat * u.size := Nat.mul_le_mul_right _ hnc
      have hR := RL.replicate (Rep.dflt (h := hpOf w) (S := Sx C.L I false) hzo true) n.toNat
      obtain ⟨b1, b2⟩ := arr_after (d := σ.b + d) (l := false) (u := u) (cap := c.toNat) hi hfree hz.1.2 a1 a2 a3 rfl hR (by rw [hlen]; exact hnc) (by simp [madeCells, hsz]) (.inl rfl) (by
        rw [hlen, hsz, ← hzs, made_flat, hcells]
        have : c.toNat = n.toNat + (c.toNat - n.toNat) := by omega
        rw [this, ← List.replicate_append_replicate, List.flatten_append, List.take_append_of_le_length]
        · rw [List.take_of_length_le]
          simp [hzs, (Rep.dflt (h := hpOf w) (S := Sx C.L I false) hzo true).len]
        · simp [hzs, (Rep.dflt (h := hpOf w) (S := Sx C.L I false) hzo true).len])
      rw [hlen] at b1 b2
      exact ⟨_, _, I, _, _, rfl, b1, b2, fun _ h => h, by simp, fun k hk _ => a2 k hk⟩
    · simp at he
  · simp at he
end
end Go.Proofs.YthlpjdjipchdkaaDoor.E


namespace Go.Proofs.YthlpjdjipchdkaaDoor.E
open Go
set_option linter.unusedSimpArgs false
set_option linter.unusedVariables false
section
variable {C : Ctx} {I : Set'} {β : Nat → Value} {F : Nat → List Nat} {σ : St} {w : World} {tm : Array Value}
theorem setSeg_ok : ∀ (vs : List Value) (off k : Nat) (arr : Array Value), off + k + vs.length ≤ arr.size →
    ((vs.zipIdx k).foldl (fun cs p => cs.setIfInBounds (off + p.2) p.1) arr).toList = arr.toList.take (off + k) ++ vs ++ arr.toList.drop (off + k + vs.length)
  | [], off, k, arr, h => by simp
  | v :: vs, off, k, arr, h => by
    simp only [List.zipIdx_cons, List.foldl_cons]
    rw [setSeg_ok vs off (k + 1) _ (by simp at h ⊢; omega)]
    have e := list_seg_step arr.toList (off + k) v vs (by simp at h ⊢; omega)
    simpa [Array.toList_setIfInBounds, Nat.add_assoc] using e
theorem fill_cons {place : Nat → Option (Nat × Nat)} {arr : Array Value} {i off size : Nat} {v : Value} {cs : List Value} {rest : List (Nat × Value)} (hp : place i = some (off, size)) (hv : v.cells.toList = cs) (hs : cs.length = size) (hle : off + size ≤ arr.size) :
    ∃ arr', Instr.fill place arr ((i, v) :: rest) = Instr.fill place arr' rest ∧ arr'.size = arr.size ∧ arr'.toList = arr.toList.take off ++ cs ++ arr.toList.drop (off + size) := by
  have hvs : v.cells.size = size := by rw [← hs, ← hv]; simp
  refine ⟨_, by simp only [Instr.fill, hp, hvs]; rw [if_neg (by simp; omega)], ?_, ?_⟩
  · rw [← Array.foldl_toList]
    have : ∀ (l : List (Value × Nat)) (a : Array Value), (l.foldl (fun cs p => cs.setIfInBounds (off + p.2) p.1) a).size = a.size := by
      intro l
      induction l with
      | nil => intro a; rfl
      | cons x l ih => intro a; simp [ih]
    exact this _ _
  · rw [← Array.foldl_toList]
    have := setSeg_ok cs off 0 arr (by rw [hs]; omega)
    simp only [Nat.add_zero] at this
    rw [← hs, ← this]
    simp [hv]
theorem vals_ok {h : Hp} {L : Set'} {ρ : List (Nat × Root)} {u : Ty} {len : Bool} : ∀ {svs : List SV} {vs : List Value} {xs : List (den u)}, vals σ u len svs = some xs → All2 (fun sv v => ∀ len τ a, toV len τ sv = some a → SVR h L I β ρ sv v) svs vs →
    ∃ css : List (List Value), RL (Rep h (Sx L I len) true u) xs css.flatten [] ∧ All2 (fun v c => v.cells.toList = c ∧ c.length = u.size) vs css ∧ css.length = svs.length ∧ xs.length = svs.length
  | [], [], xs, hv, _ => by simp [vals] at hv; subst hv; exact ⟨[], ⟨rfl, rfl⟩, trivial, rfl, rfl⟩
  | sv :: svs, v :: vs, xs, hv, ⟨h1, h2⟩ => by
    simp only [vals] at hv
    cases ht : toV len u sv with
    | none => simp [ht] at hv
    | some a =>
      cases hr : vals σ u len svs with
      | none => simp [ht, hr] at hv
      | some r =>
        simp [ht, hr] at hv
        subst hv
        obtain ⟨cs, hc, rfl⟩ := toV_ok ht (h1 len u a ht)
        obtain ⟨css, e1, e2, e3, e4⟩ := vals_ok hr h2
        exact ⟨cs :: css, ⟨cs, _, [], [], rfl, rfl, hc, e1⟩, ⟨⟨wrapV_cells hc, hc.len⟩, e2⟩, by simp [e3], by simp [e4]⟩
  | [], _ :: _, _, _, h => h.elim
  | _ :: _, [], _, _, h => h.elim
theorem told_ok : ∀ {k : Nat} {ps : List (Nat × SV)} {svs : List SV}, told k ps = some svs → svs = ps.map (·.2) ∧ ∀ j p, ps[j]? = some p → p.1 = k + j
  | k, [], svs, h => by simp [told] at h; subst h; simp
  | k, (i, v) :: l, svs, h => by
    simp only [told] at h
    cases hb : Nat.beq i k with
    | false => simp [hb] at h
    | true =>
      obtain rfl := Nat.eq_of_beq_eq_true hb
      simp only [hb] at h
      cases hr : told (i + 1) l with
      | none => simp [hr] at h
      | some r =>
        simp [hr] at h
        subst h
        obtain ⟨e1, e2⟩ := told_ok hr
        refine ⟨by simp [e1], ?_⟩
        intro j p hj
        cases j with
        | zero => simp at hj; subst hj; simp
        | succ j => have := e2 j p (by simpa using hj); omega
theorem fill_row {s n : Nat} (place : Nat → Option (Nat × Nat)) (hplace : ∀ i, place i = some (i * s, s)) : ∀ (ps : List (Nat × Value)) (css : List (List Value)) (k : Nat) (arr : Array Value),
    (∀ j p, ps[j]? = some p → p.1 = k + j) → All2 (fun v c => v.cells.toList = c ∧ c.length = s) (ps.map (·.2)) css → arr.size = n * s → k + ps.length ≤ n →
    ∃ arr', Instr.fill place arr ps = some arr' ∧ arr'.toList = arr.toList.take (k * s) ++ css.flatten ++ arr.toList.drop ((k + ps.length) * s)
  | [], [], k, arr, _, _, _, _ => ⟨arr, rfl, by simp⟩
  | [], _ :: _, _, _, _, h, _, _ => h.elim
  | _ :: _, [], _, _, _, h, _, _ => h.elim
  | (i, v) :: ps, c :: css, k, arr, hk, ⟨⟨h1, h2⟩, h3⟩, hsz, hn => by
    have hi : i = k := by have := hk 0 (i, v) rfl; simpa using this
    subst hi
    have hle : i * s + s ≤ n * s := by rw [← Nat.succ_mul]; exact Nat.mul_le_mul_right _ (by simp at hn; omega)
    obtain ⟨arr1, e1, e2, e3⟩ := fill_cons (rest := ps) (hplace i) h1 h2 (by rw [hsz]; exact hle)
    obtain ⟨arr2, f1, f2⟩ := fill_row place hplace ps css (i + 1) arr1 (fun j p hj => by have := hk (j + 1) p (by simpa using hj); omega) h3 (by rw [e2, hsz]) (by simp at hn; omega)
    refine ⟨arr2, by rw [e1, f1], ?_⟩
    rw [f2, e3]
    have hl : arr.toList.length = n * s := by simp [hsz]
    have e0 : (i + 1) * s = i * s + s := Nat.succ_mul i s
    have hlt : (List.take (i * s) arr.toList).length = i * s := by rw [List.length_take, hl]; omega
    have a1 : List.take ((i + 1) * s) (List.take (i * s) arr.toList ++ c ++ List.drop (i * s + s) arr.toList) = List.take (i * s) arr.toList ++ c := by
      rw [e0, List.take_append_of_le_length (by rw [List.length_append, hlt, h2]; omega), List.take_of_length_le (by rw [List.length_append, hlt, h2]; omega)]
    have a2 : List.drop ((i + 1 + ps.length) * s) (List.take (i * s) arr.toList ++ c ++ List.drop (i * s + s) arr.toList) = List.drop ((i + (ps.length + 1)) * s) arr.toList := by
      have e4 : (i + 1 + ps.length) * s = (i * s + s) + ps.length * s := by rw [Nat.add_mul, Nat.succ_mul]
      have e5 : (i + (ps.length + 1)) * s = (i * s + s) + ps.length * s := by rw [Nat.add_mul, Nat.succ_mul]; omega
      rw [e4, e5, ← List.drop_drop, List.drop_left' (by rw [List.length_append, hlt, h2]), List.drop_drop]
    rw [a1, List.length_cons, a2]
    simp
theorem opMkSl_ok (hi : Inv C I β F σ w tm) {dst : Option Nat} {t : TypeId} {u : Ty} {n : Nat} {ps : List (Nat × SV)} {vs : List (Nat × Value)} {sv : SV} {σ' : St}
    (hps : All2 (fun (p : Nat × SV) (q : Nat × Value) => q.1 = p.1 ∧ (∀ len τ a, toV len τ p.2 = some a → SVR (hpOf w) C.L I β σ.r p.2 q.2)) ps vs) (he : opMkSl C.T dst t u n ps σ = some (true, sv, σ')) :
    After C I (fun _ => False) σ' w tm sv ((Instr.buildSlice t n vs.toArray).run C.P w) := by
  unfold opMkSl at he
  split at he
  · rename_i d e svs hu ht
    split at he
    · rename_i hz
      simp only [Bool.and_eq_true, Bool.not_eq_true'] at hz
      obtain ⟨hz, hfree⟩ := hz
      split at he
      · rename_i xs hv
        simp only [Option.some.injEq, Prod.mk.injEq, true_and] at he
        obtain ⟨rfl, rfl⟩ := he
        obtain ⟨rfl, hidx⟩ := told_ok ht
        have hidx : ∀ (j : Nat) (p : Nat × SV), ps[j]? = some p → p.1 = 0 + j := hidx
        have hn := Nat.eq_of_beq_eq_true hz.1.1.2
        obtain ⟨hzo, j, z, e1, e2, e3⟩ := zero_ok hz.1.2
        obtain ⟨j', f1, f2⟩ := sz_ok hz.1.1.1.1.1
        rw [e1] at f1
        obtain rfl := Option.some.inj f1
        have hlen2 : vs.length = ps.length ∧ ∀ (i : Nat) (p : Nat × Value), vs[i]? = some p → p.1 = i := by
          have : ∀ (ps : List (Nat × SV)) (vs : List (Nat × Value)) (k : Nat), All2 (fun (p : Nat × SV) (q : Nat × Value) => q.1 = p.1 ∧ (∀ len τ a, toV len τ p.2 = some a → SVR (hpOf w) C.L I β σ.r p.2 q.2)) ps vs →
              (∀ (j : Nat) (p : Nat × SV), ps[j]? = some p → p.1 = k + j) → vs.length = ps.length ∧ ∀ (j : Nat) (p : Nat × Value), vs[j]? = some p → p.1 = k + j := by
            intro ps
            induction ps with
            | nil => intro vs k h _; cases vs with | nil => simp | cons => exact h.elim
            | cons p ps ih =>
              intro vs k h hk
              cases vs with
              | nil => exact h.elim
              | cons q vs =>
                obtain ⟨a1, a2⟩ := ih vs (k + 1) h.2 (fun j p hj => by have := hk (j + 1) p (by simpa using hj); omega)
                refine ⟨by simp [a1], ?_⟩
                intro j p' hj
                cases j with
                | zero => simp at hj; subst hj; have := hk 0 p rfl; rw [h.1.1]; exact this
                | succ j => have := a2 j p' (by simpa using hj); omega
          obtain ⟨a1, a2⟩ := this ps vs 0 hps hidx
          exact ⟨a1, fun i p h => by have := a2 i p h; omega⟩
        have hsvs : All2 (fun sv v => ∀ len τ a, toV len τ sv = some a → SVR (hpOf w) C.L I β σ.r sv v) (ps.map (·.2)) (vs.map (·.2)) := by
          have : ∀ (ps : List (Nat × SV)) (vs : List (Nat × Value)), All2 (fun (p : Nat × SV) (q : Nat × Value) => q.1 = p.1 ∧ (∀ len τ a, toV len τ p.2 = some a → SVR (hpOf w) C.L I β σ.r p.2 q.2)) ps vs → All2 (fun sv v => ∀ len τ a, toV len τ sv = some a → SVR (hpOf w) C.L I β σ.r sv v) (ps.map (·.2)) (vs.map (·.2)) := by
            intro ps
            induction ps with
            | nil => intro vs h; cases vs with | nil => trivial | cons => exact h.elim
            | cons p ps ih => intro vs h; cases vs with | nil => exact h.elim | cons q vs => exact ⟨h.1.2, ih vs h.2⟩
          exact this ps vs hps
        obtain ⟨css, g1, g2, g3, g4⟩ := vals_ok hv hsvs
        have hzs : z.cells.size = u.size := by rw [← Array.length_toList, e3]; exact (Rep.dflt (h := hpOf w) (S := Sx C.L I false) hzo true).len
        simp only [List.length_map] at hn g3 g4
        have hsmall : ¬ (n * j.size > 2 ^ 24) := by
          have := Nat.le_of_ble_eq_true hz.2
          rw [f2]; omega
        obtain ⟨arr', k1, k2⟩ := fill_row (s := u.size) (n := n) (fun i => some (i * u.size, u.size)) (fun _ => rfl) vs css 0 (madeCells z.cells (n * u.size)) (fun j p h => by have := hlen2.2 j p h; omega) g2 (by simp [madeCells]) (by rw [hlen2.1]; omega)
        have hcss : css.flatten.length = n * u.size := by rw [RL.len (fun _ _ _ => Rep.len) g1, g4, hn]
        have karr : arr'.toList = css.flatten := by
          rw [k2]
          have : (madeCells z.cells (n * u.size)).toList.drop ((0 + vs.length) * u.size) = [] := by
            rw [List.drop_eq_nil_iff]; simp [madeCells, hlen2.1, hn]
          rw [this]; simp
        have hu0 : u.size ≠ 0 := by intro e; rw [e] at hz; simp at hz
        have hrun : (Instr.buildSlice t n vs.toArray).run C.P w = .ok (.slice (some ⟨w.heap.size, 0, none⟩) n n) (w.alloc (.cells arr' e)) := by
          rw [f2] at hsmall
          have hsmall : ¬ (16777216 < n * u.size) := by omega
          by_cases h0 : n = 0
          · have hvs : vs = [] := List.eq_nil_of_length_eq_zero (by omega)
            have ha : arr' = #[] := by
              apply Array.eq_empty_of_size_eq_zero
              rw [← Array.length_toList, karr, hcss, h0, Nat.zero_mul]
            subst hvs
            subst h0
            rw [ha]
            simp [Instr.buildSlice, Sem.run_bind, run_underlying (und_ok hu), run_size hz.1.1.1.1.1, newRow, Instr.fill, Array.range_zero']
          · have hf : Instr.fill (fun i => some (i * u.size, u.size)) (Array.map (fun x => z.cells[x % z.cells.size]!) (Array.range (n * u.size))) vs = some arr' := by
              rw [← k1]; rfl
            simp [Instr.buildSlice, Sem.run_bind, run_underlying (und_ok hu), run_size hz.1.1.1.1.1, h0, hu0, hf, newRow, zeroValue, typeInfo, e1, e2, hsmall]
            intro hx
            rcases Nat.mul_eq_zero.1 hx with hx | hx
            · exact (h0 hx).elim
            · exact (hu0 hx).elim
        rw [hrun]
        obtain ⟨a1, a2, a3⟩ := hp_alloc (w := w) (.cells arr' e)
        have hxs : xs.length = n := by omega
        obtain ⟨b1, b2⟩ := arr_after (d := σ.b + d) (l := anyLen (ps.map (·.2))) (u := u) (cap := n) hi hfree hz.1.1.1.2 a1 a2 a3 rfl g1 (by omega) (by rw [← Array.length_toList, karr, hcss]; exact Nat.le_refl _) (.inl rfl) (by
          rw [karr, hxs, List.take_of_length_le (by rw [hcss]; exact Nat.le_refl _)])
        rw [hxs] at b1 b2
        exact ⟨_, _, I, _, _, rfl, b1, b2, fun _ h => h, by simp, fun k hk _ => a2 k hk⟩
      · simp at he
    · simp at he
  · simp at he
def evT (tm : Array Value) (x : Operand) : Value := Act.eval ⟨tm, []⟩ x
def Gok (tm : Array Value) (g : Option (Nat × Bool)) : Prop := ∀ d w, g = some (d, w) → tm.getD d undef = .bool w
theorem svConst_ok {h : Hp} {L I : Set'} {ρ : List (Nat × Root)} (c : Value) : SVR h L I β ρ (svConst c) c := by
  unfold svConst
  split
  · exact svr_bool
  · exact svr_int
  · rename_i s; obtain ⟨⟨l⟩⟩ := s; exact svr_str
  · exact ⟨none, rfl⟩
  · exact rfl
  · trivial
theorem findC_mem : ∀ {l : List (Nat × Nat × Bool × SV)} {n d : Nat} {u : Bool}, findC l n d u = .x ∨ (n, d, u, findC l n d u) ∈ l
  | [], _, _, _ => .inl rfl
  | (k, e, w, v) :: l, n, d, u => by
    simp only [findC]
    cases hb : (Nat.beq k n && Nat.beq e d && boolEq w u) with
    | true =>
      simp only [Bool.and_eq_true] at hb
      obtain rfl := Nat.eq_of_beq_eq_true hb.1.1
      obtain rfl := Nat.eq_of_beq_eq_true hb.1.2
      obtain rfl := boolEq_iff hb.2
      right; simp
    | false =>
      rcases findC_mem (l := l) (n := n) (d := d) (u := u) with h | h
      · exact .inl h
      · right; simp only [List.mem_cons]; exact .inr h
theorem at_ok {I : Set'} {σ : St} (hi : Inv C I β F σ w tm) {g : Option (Nat × Bool)} (hg : Gok tm g) (i : Nat) : SVR (hpOf w) C.L I β σ.r (σ.at g i) (tm.getD i undef) := by
  have h := hi.slots i
  unfold St.at
  split
  · split
    · rename_i d u
      rcases findC_mem (l := σ.c) (n := i) (d := d) (u := u) with h | h
      · rw [h]; trivial
      · exact hi.conds _ _ _ _ h (hg d u rfl)
    · trivial
  · exact h
theorem Inv.base {I : Set'} {σ : St} (hi : Inv C I β F σ w tm) (l : Bool) : ∀ b, Sx C.L C.I l b → Sx C.L I l b ∧ hpOf w b = C.h b := by
  rintro b (hb | ⟨h1, hb⟩)
  · exact ⟨.inl (hi.sub b hb), hi.frame b (C.Iok b hb).1 (C.Iok b hb).2⟩
  · exact ⟨.inr ⟨h1, hb⟩, hi.frame b (C.Lok b hb).1 (C.Lok b hb).2⟩
theorem arg_ok {I : Set'} {σ : St} (hi : Inv C I β F σ w tm) {g : Option (Nat × Bool)} (hg : Gok tm g) (x : Operand) : SVR (hpOf w) C.L I β σ.r (σ.arg C.G g x) (evT tm x) := by
  cases x with
  | tmp i => exact at_ok hi hg i
  | const c => exact svConst_ok c
  | global n =>
    simp only [St.arg]
    cases hG : C.G n with
    | none => trivial
    | some v =>
      obtain ⟨t, a⟩ := v
      exact Rep.keep (hi.base true) (by simp) (C.gok n _ hG)
  | func f => exact ⟨[], [], rfl, trivial, trivial⟩
theorem firstHole_none : ∀ {t : Ty}, firstHole t = none → ∀ r, holeIn r t = false
  | .hole j, h, r => by simp [firstHole] at h
  | .pair a b, h, r => by
    simp only [firstHole] at h
    cases ha : firstHole a with
    | some j => rw [ha] at h; simp at h
    | none => rw [ha] at h; simp [holeIn, firstHole_none ha r, firstHole_none h r]
  | .int _, _, _ | .bool, _, _ | .str, _, _ | .unit, _, _ | .arr _ _, _, _ | .sl _ _, _, _ | .ptr _ _, _, _ | .ref _ _, _, _ | .map _ _ _, _, _ | .raw _ _, _, _ | .nils, _, _ | .nilp, _, _ => rfl
theorem solid_in {t : Ty} (h : solid t = true) (r : Nat) : holeIn r t = false := by
  cases hq : holeIn r t with
  | false => rfl
  | true =>
    obtain ⟨p, hp, _⟩ := (holeIn_iff (o := 0)).1 hq
    rw [solid_iff h] at hp
    simp at hp
theorem shareH_free : ∀ (n : Nat) {σ σ' : St} {len : Bool} {t : Ty} {a : den t} {sv' : SV}, shareH n σ len t a = (sv', σ') → ∀ r, sv'.uses r = false
  | 0, σ, σ', len, t, a, sv', h, r => by simp only [shareH, Prod.mk.injEq] at h; rw [← h.1]; rfl
  | n + 1, σ, σ', len, t, a, sv', h, r => by
    simp only [shareH] at h
    cases hk : firstHole t with
    | none =>
      simp only [hk, Prod.mk.injEq] at h
      rw [← h.1]
      simp [SV.uses, SV.uses0, firstHole_none hk r]
    | some k =>
      simp only [hk] at h
      have hx : (SV.x, σ) = (sv', σ') → sv'.uses r = false := by intro e; simp only [Prod.mk.injEq] at e; rw [← e.1]; rfl
      cases hl : look σ.r k with
      | none => rw [hl] at h; exact hx h
      | some R =>
        rw [hl] at h
        cases R with
        | box _ _ _ => exact hx h
        | map _ _ _ _ _ => exact hx h
        | arr f l u xs =>
          simp only at h
          cases hf : u.flat with
          | false => rw [hf] at h; exact hx h
          | true => rw [hf] at h; exact shareH_free n h r
theorem shared_free {sv sv' : SV} {σ σ' : St} (h : sharedV σ sv = (sv', σ')) {len : Bool} {τ : Ty} {a : den τ} (ht : toV len τ sv' = some a) (r : Nat) : sv'.uses r = false := by
  cases sv' with
  | v l t b =>
    cases sv with
    | v l0 t0 b0 =>
      simp only [sharedV] at h
      cases hsd : solid t0 with
      | true => rw [hsd] at h; simp only [Prod.mk.injEq] at h; rw [← h.1]; simp [SV.uses, SV.uses0, solid_in hsd r]
      | false => rw [hsd] at h; exact shareH_free 9 h r
    | sf k =>
      unfold sharedV at h
      simp only [SV.root] at h
      split at h
      · split at h
        · simp only [Prod.mk.injEq] at h
          have e := h.1
          simp only [frz, Nat.beq_refl] at e
          rw [← e]; rfl
        · simp at h
      · simp at h
    | s k lo n =>
      unfold sharedV at h
      simp only [SV.root] at h
      split at h
      · split at h
        · simp only [Prod.mk.injEq] at h
          have e := h.1
          simp only [frz, Nat.beq_refl] at e
          rw [← e]; rfl
        · simp at h
      · simp at h
    | _ => simp [sharedV, SV.root] at h
  | q _ _ _ => rfl
  | nl => rfl
  | np => rfl
  | _ => simp [toV] at ht
theorem sharedL_ok {g : Option (Nat × Bool)} (hg : Gok tm g) : ∀ (ps : List (Nat × Operand)) {I : Set'} {σ σ' : St} {qs : List (Nat × SV)}, Inv C I β F σ w tm → sharedL C.G g σ ps = (qs, σ') →
    ∃ I', Inv C I' β F σ' w tm ∧ Less F I σ I' σ' ∧
      All2 (fun (p : Nat × SV) (q : Nat × Value) => q.1 = p.1 ∧ (∀ len τ a, toV len τ p.2 = some a → SVR (hpOf w) C.L I' β σ'.r p.2 q.2)) qs (ps.map fun p => (p.1, evT tm p.2))
  | [], I, σ, σ', qs, hi, he => by
    simp [sharedL] at he
    obtain ⟨rfl, rfl⟩ := he
    exact ⟨I, hi, Less.refl, trivial⟩
  | (i, x) :: ps, I, σ, σ', qs, hi, he => by
    simp only [sharedL] at he
    cases hs : sharedV σ (σ.arg C.G g x) with
    | mk v' σ1 =>
      simp only [hs] at he
      cases hl : sharedL C.G g σ1 ps with
      | mk l σ2 =>
        simp only [hl, Prod.mk.injEq] at he
        obtain ⟨rfl, rfl⟩ := he
        obtain ⟨I1, hi1, hv1, hl1⟩ := shared_ok hi (arg_ok hi hg x) hs
        obtain ⟨I2, hi2, hl2, ha⟩ := sharedL_ok hg ps hi1 hl
        refine ⟨I2, hi2, hl1.trans hl2, ⟨rfl, ?_⟩, ha⟩
        intro len τ a ht
        exact hl2.svr (fun r hu => by rw [shared_free hs ht r] at hu; cases hu) hv1
end
end Go.Proofs.YthlpjdjipchdkaaDoor.E

namespace Go.Proofs.YthlpjdjipchdkaaDoor.E
open Go
set_option linter.unusedSimpArgs false
set_option linter.unusedVariables false
theorem seg_get {α : Type} (l c : List α) (o t : Nat) (h : o + c.length ≤ l.length) : (l.take o ++ c ++ l.drop (o + c.length))[t]? = if t < o then l[t]? else if t < o + c.length then c[t - o]? else l[t]? := by
  have hl : (l.take o).length = o := by rw [List.length_take]; omega
  by_cases h1 : t < o
  · rw [if_pos h1, List.append_assoc, List.getElem?_append_left (by omega), List.getElem?_take_of_lt h1]
  · rw [if_neg h1]
    by_cases h2 : t < o + c.length
    · rw [if_pos h2, List.append_assoc, List.getElem?_append_right (by omega), hl, List.getElem?_append_left (by omega)]
    · rw [if_neg h2, List.getElem?_append_right (by rw [List.length_append]; omega), List.length_append, hl, List.getElem?_drop]
      congr 1; omega
theorem seg_swap {α : Type} (l c d : List α) (o p : Nat) (hc : o + c.length ≤ l.length) (hd : p + d.length ≤ l.length) (h : o + c.length ≤ p ∨ p + d.length ≤ o) :
    ((l.take o ++ c ++ l.drop (o + c.length)).take p ++ d ++ (l.take o ++ c ++ l.drop (o + c.length)).drop (p + d.length)) = ((l.take p ++ d ++ l.drop (p + d.length)).take o ++ c ++ (l.take p ++ d ++ l.drop (p + d.length)).drop (o + c.length)) := by
  have e1 : (l.take o ++ c ++ l.drop (o + c.length)).length = l.length := by simp; omega
  have e2 : (l.take p ++ d ++ l.drop (p + d.length)).length = l.length := by simp; omega
  apply List.ext_getElem?
  intro t
  have g1 := seg_get (l.take o ++ c ++ l.drop (o + c.length)) d p t (by rw [e1]; exact hd)
  have g2 := seg_get (l.take p ++ d ++ l.drop (p + d.length)) c o t (by rw [e2]; exact hc)
  rw [g1, g2, seg_get l c o t hc, seg_get l d p t hd]
  by_cases h1 : t < o
  · by_cases h2 : t < p
    · simp [h1, h2]
    · by_cases h3 : t < p + d.length
      · simp [h1, h2, h3]
      · simp [h1, h2, h3]
  · by_cases h2 : t < p
    · by_cases h3 : t < o + c.length
      · simp [h1, h2, h3]
      · simp [h1, h2, h3]
    · by_cases h3 : t < o + c.length
      · by_cases h4 : t < p + d.length
        · omega
        · simp [h1, h2, h3, h4]
      · by_cases h4 : t < p + d.length
        · simp [h1, h2, h3, h4]
        · simp [h1, h2, h3, h4]
def wrS (o : Nat) (v : Value) (arr : Array Value) : Array Value := Array.foldl (fun cs x => cs.setIfInBounds (o + x.snd) x.fst) arr v.cells.zipIdx
theorem wrS_size (o : Nat) (v : Value) (arr : Array Value) : (wrS o v arr).size = arr.size := by
  unfold wrS
  rw [← Array.foldl_toList]
  have : ∀ (l : List (Value × Nat)) (a : Array Value), (l.foldl (fun cs p => cs.setIfInBounds (o + p.2) p.1) a).size = a.size := by
    intro l
    induction l with
    | nil => intro a; rfl
    | cons x l ih => intro a; simp [ih]
  exact this _ _
theorem fill_eq {place : Nat → Option (Nat × Nat)} {arr : Array Value} {i : Nat} {v : Value} {rest : List (Nat × Value)} : Instr.fill place arr ((i, v) :: rest) =
    (match place i with
    | none => none
    | some (off, size) => if (decide (v.cells.size ≠ size) || decide (off + v.cells.size > arr.size)) = true then none else Instr.fill place (wrS off v arr) rest) := by
  rw [Instr.fill]
  unfold wrS
  cases place i with
  | none => rfl
  | some q => rfl
theorem wrS_list {o : Nat} {v : Value} {arr : Array Value} (h : o + v.cells.size ≤ arr.size) : (wrS o v arr).toList = arr.toList.take o ++ v.cells.toList ++ arr.toList.drop (o + v.cells.toList.length) := by
  obtain ⟨arr', e1, e2, e3⟩ := fill_cons (place := fun _ => some (o, v.cells.size)) (arr := arr) (i := 0) (off := o) (size := v.cells.size) (v := v) (rest := []) rfl rfl (by simp) h
  rw [fill_eq] at e1
  simp only at e1
  rw [if_neg (by simp; omega)] at e1
  have : wrS o v arr = arr' := by simpa [Instr.fill] using e1
  rw [this, e3]
  simp
theorem fill_swap {place : Nat → Option (Nat × Nat)} {arr : Array Value} {i j : Nat} {a b : Value} {rest : List (Nat × Value)}
    (hd : ∀ oi ni oj nj, place i = some (oi, ni) → place j = some (oj, nj) → oi + ni ≤ oj ∨ oj + nj ≤ oi) : Instr.fill place arr ((i, a) :: (j, b) :: rest) = Instr.fill place arr ((j, b) :: (i, a) :: rest) := by
  rw [fill_eq, fill_eq]
  cases hi : place i with
  | none =>
    cases hj : place j with
    | none => rfl
    | some q =>
      simp only
      split
      · rfl
      · rw [fill_eq, hi]
  | some p =>
    obtain ⟨oi, ni⟩ := p
    cases hj : place j with
    | none =>
      simp only
      split
      · rfl
      · rw [fill_eq, hj]
    | some q =>
      obtain ⟨oj, nj⟩ := q
      simp only
      rw [fill_eq, fill_eq, hi, hj]
      simp only [wrS_size]
      by_cases cA : (decide (a.cells.size ≠ ni) || decide (oi + a.cells.size > arr.size)) = true
      · rw [if_pos cA]
        by_cases cB : (decide (b.cells.size ≠ nj) || decide (oj + b.cells.size > arr.size)) = true
        · rw [if_pos cB]
        · rw [if_neg cB, if_pos cA]
      · by_cases cB : (decide (b.cells.size ≠ nj) || decide (oj + b.cells.size > arr.size)) = true
        · rw [if_neg cA, if_pos cB, if_pos cB]
        · rw [if_neg cA, if_neg cB, if_neg cB, if_neg cA]
          simp only [ne_eq, decide_not, Bool.or_eq_true, Bool.not_eq_true', decide_eq_false_iff_not, decide_eq_true_eq, not_or, Classical.not_not] at cA cB
          congr 1
          apply Array.ext'
          have h1 : oi + a.cells.size ≤ arr.size := by omega
          have h2 : oj + b.cells.size ≤ arr.size := by omega
          have k1 := wrS_list (o := oj) (v := b) (arr := wrS oi a arr) (by rw [wrS_size]; exact h2)
          have k2 := wrS_list (o := oi) (v := a) (arr := wrS oj b arr) (by rw [wrS_size]; exact h1)
          rw [k1, k2, wrS_list h1, wrS_list h2]
          have := hd _ _ _ _ hi hj
          exact seg_swap _ _ _ _ _ (by simp; omega) (by simp; omega) (by simp; omega)
theorem fill_congr {place : Nat → Option (Nat × Nat)} {x : Nat × Value} {l m : List (Nat × Value)} (h : ∀ arr, Instr.fill place arr l = Instr.fill place arr m) (arr : Array Value) : Instr.fill place arr (x :: l) = Instr.fill place arr (x :: m) := by
  obtain ⟨i, v⟩ := x
  rw [fill_eq, fill_eq]
  cases place i with
  | none => rfl
  | some p =>
    simp only
    split
    · rfl
    · exact h _
theorem insQ_keys {α : Type} (x : Nat × α) : ∀ (l : List (Nat × α)) (k : Nat), k ∈ (insQ x l).map (·.1) ↔ k = x.1 ∨ k ∈ l.map (·.1)
  | [], k => by simp [insQ]
  | y :: l, k => by
    unfold insQ
    split
    · simp
    · simp only [List.map_cons, List.mem_cons, insQ_keys x l k]
      constructor
      · rintro (h | h | h)
        · exact .inr (.inl h)
        · exact .inl h
        · exact .inr (.inr h)
      · rintro (h | h | h)
        · exact .inr (.inl h)
        · exact .inl h
        · exact .inr (.inr h)
theorem sortQ_keys {α : Type} : ∀ (l : List (Nat × α)) (k : Nat), k ∈ (sortQ l).map (·.1) ↔ k ∈ l.map (·.1)
  | [], k => by simp [sortQ]
  | x :: l, k => by
    unfold sortQ
    rw [insQ_keys, sortQ_keys l k]
    simp
theorem keysOf_eq {α : Type} : ∀ l : List (Nat × α), keysOf l = l.map (·.1)
  | [] => rfl
  | (k, _) :: l => by simp [keysOf, keysOf_eq l]
theorem fill_ins {place : Nat → Option (Nat × Nat)} (hd : ∀ i j oi ni oj nj, i ≠ j → place i = some (oi, ni) → place j = some (oj, nj) → oi + ni ≤ oj ∨ oj + nj ≤ oi) (x : Nat × Value) : ∀ (l : List (Nat × Value)) (arr : Array Value), x.1 ∉ l.map (·.1) → Instr.fill place arr (insQ x l) = Instr.fill place arr (x :: l)
  | [], arr, _ => rfl
  | y :: l, arr, h => by
    simp only [List.map_cons, List.mem_cons, not_or] at h
    unfold insQ
    split
    · rfl
    · rw [fill_congr (fun arr => fill_ins hd x l arr h.2) arr]
      obtain ⟨i, a⟩ := x
      obtain ⟨j, b⟩ := y
      exact fill_swap (fun oi ni oj nj h1 h2 => hd _ _ _ _ _ _ (fun e => h.1 e.symm) h1 h2)
theorem fill_sort {place : Nat → Option (Nat × Nat)} (hd : ∀ i j oi ni oj nj, i ≠ j → place i = some (oi, ni) → place j = some (oj, nj) → oi + ni ≤ oj ∨ oj + nj ≤ oi) : ∀ (l : List (Nat × Value)) (arr : Array Value), (l.map (·.1)).Nodup → Instr.fill place arr (sortQ l) = Instr.fill place arr l
  | [], arr, _ => rfl
  | x :: l, arr, h => by
    simp only [List.map_cons, List.nodup_cons] at h
    unfold sortQ
    rw [fill_ins hd x _ _ (by rw [sortQ_keys]; exact h.1)]
    exact fill_congr (fun arr => fill_sort hd l arr h.2) arr
theorem all2_ins {α β : Type} {R : (Nat × α) → (Nat × β) → Prop} (hk : ∀ x y, R x y → y.1 = x.1) {x : Nat × α} {y : Nat × β} (hxy : R x y) : ∀ {l : List (Nat × α)} {m : List (Nat × β)}, All2 R l m → All2 R (insQ x l) (insQ y m)
  | [], [], _ => ⟨hxy, trivial⟩
  | [], _ :: _, h => h.elim
  | _ :: _, [], h => h.elim
  | a :: l, b :: m, ⟨h1, h2⟩ => by
    unfold insQ
    rw [hk _ _ hxy, hk _ _ h1]
    split
    · exact ⟨hxy, h1, h2⟩
    · exact ⟨h1, all2_ins hk hxy h2⟩
theorem all2_sort {α β : Type} {R : (Nat × α) → (Nat × β) → Prop} (hk : ∀ x y, R x y → y.1 = x.1) : ∀ {l : List (Nat × α)} {m : List (Nat × β)}, All2 R l m → All2 R (sortQ l) (sortQ m)
  | [], [], _ => trivial
  | [], _ :: _, h => h.elim
  | _ :: _, [], h => h.elim
  | a :: l, b :: m, ⟨h1, h2⟩ => all2_ins hk h1 (all2_sort hk h2)
theorem all2_keys {α β : Type} {R : (Nat × α) → (Nat × β) → Prop} (hk : ∀ x y, R x y → y.1 = x.1) : ∀ {l : List (Nat × α)} {m : List (Nat × β)}, All2 R l m → m.map (·.1) = l.map (·.1)
  | [], [], _ => rfl
  | [], _ :: _, h => h.elim
  | _ :: _, [], h => h.elim
  | a :: l, b :: m, ⟨h1, h2⟩ => by simp [hk _ _ h1, all2_keys hk h2]
theorem insQ_len {α : Type} (x : Nat × α) : ∀ l : List (Nat × α), (insQ x l).length = l.length + 1
  | [] => rfl
  | y :: l => by
    unfold insQ
    split
    · rfl
    · simp [insQ_len x l]
theorem sortQ_len {α : Type} : ∀ l : List (Nat × α), (sortQ l).length = l.length
  | [] => rfl
  | x :: l => by unfold sortQ; rw [insQ_len, sortQ_len l]; rfl
theorem natMem_iff' {n : Nat} : ∀ {l : List Nat}, natMem n l = false → n ∉ l
  | [], _ => by simp
  | k :: l, h => by
    simp only [natMem, Bool.or_eq_false_iff] at h
    simp only [List.mem_cons, not_or]
    exact ⟨fun e => by rw [e] at h; simp at h, natMem_iff' h.2⟩
theorem nodupN_iff' : ∀ {l : List Nat}, nodupN l = true → l.Nodup
  | [], _ => List.nodup_nil
  | k :: l, h => by
    simp only [nodupN, Bool.and_eq_true, Bool.not_eq_true'] at h
    exact List.nodup_cons.2 ⟨natMem_iff' h.1, nodupN_iff' h.2⟩
end Go.Proofs.YthlpjdjipchdkaaDoor.E

namespace Go.Proofs.YthlpjdjipchdkaaDoor.E
open Go
set_option linter.unusedSimpArgs false
set_option linter.unusedVariables false
section
variable {C : Ctx} {β : Nat → Value} {F : Nat → List Nat} {w : World} {tm : Array Value}
def comps : Ty → Nat
  | .pair _ b => comps b + 1
  | _ => 0
theorem fillF_le {len : Bool} : ∀ {τ : Ty} {k : Nat} {qs : List (Nat × SV)} {x : den τ}, fillF len τ k qs = some x → qs.length ≤ comps τ
  | .unit, k, [], x, h => by simp
  | .unit, k, _ :: _, x, h => by simp [fillF] at h
  | .pair a b, k, [], x, h => by simp
  | .pair a b, k, (i, v) :: l, x, h => by
    simp only [fillF] at h
    cases hb : Nat.beq i k with
    | false =>
      simp only [hb] at h
      cases hr : fillF len b (k + 1) ((i, v) :: l) with
      | none => simp [hr] at h
      | some r => have := fillF_le hr; simp only [comps]; omega
    | true =>
      simp only [hb] at h
      cases ht : toV len a v with
      | none => simp [ht] at h
      | some y =>
        cases hr : fillF len b (k + 1) l with
        | none => simp [ht, hr] at h
        | some r => have := fillF_le hr; simp only [comps, List.length_cons]; omega
  | .int _, _, [], _, h | .bool, _, [], _, h | .str, _, [], _, h | .arr _ _, _, [], _, h | .sl _ _, _, [], _, h | .ptr _ _, _, [], _, h | .ref _ _, _, [], _, h | .map _ _ _, _, [], _, h | .hole _, _, [], _, h | .raw _ _, _, [], _, h | .nils, _, [], _, h | .nilp, _, [], _, h => by simp
  | .int _, _, _ :: _, _, h | .bool, _, _ :: _, _, h | .str, _, _ :: _, _, h | .arr _ _, _, _ :: _, _, h | .sl _ _, _, _ :: _, _, h | .ptr _ _, _, _ :: _, _, h | .ref _ _, _, _ :: _, _, h | .map _ _ _, _, _ :: _, _, h | .hole _, _, _ :: _, _, h | .raw _ _, _, _ :: _, _, h | .nils, _, _ :: _, _, h | .nilp, _, _ :: _, _, h => by simp [fillF] at h
theorem zeroC_len : ∀ {t : Ty}, zOkH t = true → (zeroC t).length = t.size
  | .pair a b, hz => by
    simp only [zOkH, Bool.and_eq_true] at hz
    simp [zeroC, Ty.size, zeroC_len hz.1, zeroC_len hz.2]
  | .arr n t, hz => (Rep.dflt (h := fun _ => none) (S := fun _ => False) (t := .arr n t) hz true).len
  | .int _, _ | .bool, _ | .str, _ | .unit, _ | .sl _ _, _ | .ptr _ _, _ | .ref _ _, _ | .map _ _ _, _ => rfl
theorem fillF_ok {h : Hp} {L I : Set'} {ρ : List (Nat × Root)} {len : Bool} {fs : List Field} (hall : ∀ (i : Nat) (f : Field), fs[i]? = some f → True) (place : Nat → Option (Nat × Nat)) :
    ∀ (τ : Ty) (k o : Nat) (qs : List (Nat × SV)) (vs : List (Nat × Value)) (x : den τ) (arr : Array Value), fillF len τ k qs = some x →
      All2 (fun (p : Nat × SV) (q : Nat × Value) => q.1 = p.1 ∧ (∀ len τ a, toV len τ p.2 = some a → SVR h L I β ρ p.2 q.2)) qs vs → zOkH τ = true → (zOk τ = true ∨ qs.length = comps τ) →
      (∀ j a o', fldOff τ j = some (o', a) → place (k + j) = some (o + o', a.size)) → o + τ.size ≤ arr.size → (arr.toList.drop o).take τ.size = zeroC τ →
      ∃ arr' cs, Instr.fill place arr vs = some arr' ∧ arr'.size = arr.size ∧ arr'.toList = arr.toList.take o ++ cs ++ arr.toList.drop (o + τ.size) ∧ Rep h (Sx L I len) true τ x cs []
  | .unit, k, o, [], [], x, arr, hf, _, _, _, _, _, _ => by
    refine ⟨arr, [], rfl, rfl, by simp [Ty.size], ⟨rfl, rfl⟩⟩
  | .unit, k, o, [], _ :: _, x, arr, hf, h, _, _, _, _, _ => h.elim
  | .unit, k, o, _ :: _, _, x, arr, hf, _, _, _, _, _, _ => by simp [fillF] at hf
  | .pair a b, k, o, qs, vs, x, arr, hf, ha, hz, hzq, hp, hsz, hzero => by
    simp only [zOkH, Bool.and_eq_true] at hz
    have hp0 : place k = some (o, a.size) := by have := hp 0 a 0 rfl; simpa using this
    have hp1 : ∀ j c o', fldOff b j = some (o', c) → place (k + 1 + j) = some (o + a.size + o', c.size) := by
      intro j c o' hj
      have := hp (j + 1) c (a.size + o') (by simp [fldOff, hj])
      rw [show k + 1 + j = k + (j + 1) by omega, this, Nat.add_assoc]
    have hlA : (zeroC a).length = a.size := zeroC_len hz.1
    have hlB : (zeroC b).length = b.size := zeroC_len hz.2
    have hsz' : o + a.size + b.size ≤ arr.size := by simp only [Ty.size] at hsz; omega
    have hL : arr.toList.length = arr.size := by simp
    have hzA : (arr.toList.drop o).take a.size = zeroC a := by
      have e : (arr.toList.drop o).take a.size = ((arr.toList.drop o).take (Ty.pair a b).size).take a.size := by
        rw [List.take_take]; congr 1; simp only [Ty.size]; omega
      rw [e, hzero, zeroC, List.take_left' hlA]
    have hzB : (arr.toList.drop (o + a.size)).take b.size = zeroC b := by
      have e : (arr.toList.drop (o + a.size)).take b.size = ((arr.toList.drop o).take (Ty.pair a b).size).drop a.size := by
        rw [List.drop_take, List.drop_drop]; congr 1; simp only [Ty.size]; omega
      rw [e, hzero, zeroC, List.drop_left' hlA]
    have hskip : ∀ (r : den b), fillF len b (k + 1) qs = some r → x = (dflt a, r) → ∃ arr' cs, Instr.fill place arr vs = some arr' ∧ arr'.size = arr.size ∧ arr'.toList = arr.toList.take o ++ cs ++ arr.toList.drop (o + (Ty.pair a b).size) ∧ Rep h (Sx L I len) true (.pair a b) x cs [] := by
      rintro r hr rfl
      have hzo : zOk a = true ∧ zOk b = true := by
        rcases hzq with h | h
        · simpa [zOk] using h
        · have := fillF_le hr; simp only [comps] at h; omega
      obtain ⟨arr', cs, e1, e2, e3, e4⟩ := fillF_ok hall place b (k + 1) (o + a.size) qs vs r arr hr ha hz.2 (.inl hzo.2) hp1 hsz' hzB
      refine ⟨arr', zeroC a ++ cs, e1, e2, ?_, ⟨zeroC a, cs, [], [], rfl, rfl, Rep.dflt hzo.1 true, e4⟩⟩
      rw [e3, List.take_add, hzA]
      simp [Ty.size, Nat.add_assoc]
    cases qs with
    | nil =>
      simp only [fillF] at hf
      cases hr : fillF len b (k + 1) [] with
      | none => simp [hr] at hf
      | some r => simp [hr] at hf; exact hskip r hr hf.symm
    | cons q qs =>
      obtain ⟨i, v⟩ := q
      simp only [fillF] at hf
      cases hb : Nat.beq i k with
      | false =>
        simp only [hb] at hf
        cases hr : fillF len b (k + 1) ((i, v) :: qs) with
        | none => simp [hr] at hf
        | some r => simp [hr] at hf; exact hskip r hr hf.symm
      | true =>
        obtain rfl := Nat.eq_of_beq_eq_true hb
        simp only [hb] at hf
        cases ht : toV len a v with
        | none => simp [ht] at hf
        | some y =>
          cases hr : fillF len b (i + 1) qs with
          | none => simp [ht, hr] at hf
          | some r =>
            simp [ht, hr] at hf
            subst hf
            cases vs with
            | nil => exact ha.elim
            | cons q' vs =>
              obtain ⟨j, u⟩ := q'
              obtain ⟨⟨h1, h2⟩, h3⟩ := ha
              simp only at h1
              subst h1
              obtain ⟨cs, hc, hu⟩ := toV_ok ht (h2 len a y ht)
              simp only at hu
              have hcl := hc.len
              have hcells : u.cells.toList = cs := by rw [hu]; exact wrapV_cells hc
              obtain ⟨arr1, e1, e2, e3⟩ := fill_cons (v := u) (rest := vs) hp0 hcells hcl (by omega : o + a.size ≤ arr.size)
              have hlt : (List.take o arr.toList).length = o := by rw [List.length_take, hL]; omega
              have hdrop : List.drop (o + a.size) arr1.toList = List.drop (o + a.size) arr.toList := by
                rw [e3, List.drop_left' (by rw [List.length_append, hlt, hcl])]
              obtain ⟨arr2, ds, f1, f2, f3, f4⟩ := fillF_ok hall place b (j + 1) (o + a.size) qs vs r arr1 hr h3 hz.2 (by rcases hzq with h | h; exact .inl (by simp [zOk] at h; exact h.2); exact .inr (by simp only [comps, List.length_cons] at h; omega)) hp1 (by rw [e2]; exact hsz') (by rw [hdrop]; exact hzB)
              refine ⟨arr2, cs ++ ds, by rw [e1]; exact f1, by rw [f2, e2], ?_, ⟨cs, ds, [], [], rfl, rfl, hc, f4⟩⟩
              have htake : List.take (o + a.size) arr1.toList = List.take o arr.toList ++ cs := by
                rw [e3, List.take_left' (by rw [List.length_append, hlt, hcl])]
              have hd2 : List.drop (o + a.size + b.size) arr1.toList = List.drop (o + a.size + b.size) arr.toList := by
                rw [← List.drop_drop, hdrop, List.drop_drop]
              rw [f3, htake, hd2]
              simp [Ty.size, Nat.add_assoc]
  | .int _, _, _, _, _, _, _, hf, _, _, _, _, _, _ | .bool, _, _, _, _, _, _, hf, _, _, _, _, _, _ | .str, _, _, _, _, _, _, hf, _, _, _, _, _, _ | .arr _ _, _, _, _, _, _, _, hf, _, _, _, _, _, _
  | .sl _ _, _, _, _, _, _, _, hf, _, _, _, _, _, _ | .ptr _ _, _, _, _, _, _, _, hf, _, _, _, _, _, _ | .ref _ _, _, _, _, _, _, _, hf, _, _, _, _, _, _ | .map _ _ _, _, _, _, _, _, _, hf, _, _, _, _, _, _
  | .hole _, _, _, _, _, _, _, hf, _, _, _, _, _, _ | .raw _ _, _, _, _, _, _, _, hf, _, _, _, _, _, _ | .nils, _, _, _, _, _, _, hf, _, _, _, _, _, _ | .nilp, _, _, _, _, _, _, hf, _, _, _, _, _, _ => by simp [fillF] at hf
theorem lie_ok : ∀ (τ : Ty) (fs : List Field) (o : Nat), lie C.T τ fs o = true → ∀ j a o', fldOff τ j = some (o', a) → ∃ f, fs[j]? = some f ∧ f.offset = o + o' ∧ szB C.T f.type a.size = true
  | .unit, [], o, _, j, a, o', h => by simp [fldOff] at h
  | .unit, _ :: _, o, h, _, _, _, _ => by simp [lie] at h
  | .pair a b, [], o, h, _, _, _, _ => by simp [lie] at h
  | .pair a b, f :: fs, o, h, j, c, o', hj => by
    simp only [lie, Bool.and_eq_true] at h
    cases j with
    | zero =>
      simp [fldOff] at hj
      obtain ⟨rfl, rfl⟩ := hj
      exact ⟨f, rfl, Nat.eq_of_beq_eq_true h.1.1, h.1.2⟩
    | succ j =>
      simp only [fldOff] at hj
      cases hq : fldOff b j with
      | none => simp [hq] at hj
      | some q =>
        simp [hq] at hj
        obtain ⟨rfl, rfl⟩ := hj
        obtain ⟨f', e1, e2, e3⟩ := lie_ok b fs (o + a.size) h.2 j q.2 q.1 hq
        exact ⟨f', by simpa using e1, by omega, e3⟩
  | .int _, _, _, h, _, _, _, _ | .bool, _, _, h, _, _, _, _ | .str, _, _, h, _, _, _, _ | .arr _ _, _, _, h, _, _, _, _ | .sl _ _, _, _, h, _, _, _, _ | .ptr _ _, _, _, h, _, _, _, _ | .ref _ _, _, _, h, _, _, _, _ | .map _ _ _, _, _, h, _, _, _, _ | .hole _, _, _, h, _, _, _, _ | .raw _ _, _, _, h, _, _, _, _ | .nils, _, _, h, _, _, _, _ | .nilp, _, _, h, _, _, _, _ => by simp [lie] at h
theorem lie_all : ∀ (τ : Ty) (fs : List Field) (o : Nat), lie C.T τ fs o = true → ∀ f ∈ fs, ∃ n, szB C.T f.type n = true
  | .unit, [], o, _, f, h => by simp at h
  | .unit, _ :: _, o, h, _, _ => by simp [lie] at h
  | .pair a b, [], o, h, _, _ => by simp [lie] at h
  | .pair a b, f :: fs, o, h, f', hm => by
    simp only [lie, Bool.and_eq_true] at h
    rcases List.mem_cons.1 hm with rfl | hm
    · exact ⟨a.size, h.1.2⟩
    · exact lie_all b fs (o + a.size) h.2 f' hm
  | .int _, _, _, h, _, _ | .bool, _, _, h, _, _ | .str, _, _, h, _, _ | .arr _ _, _, _, h, _, _ | .sl _ _, _, _, h, _, _ | .ptr _ _, _, _, h, _, _ | .ref _ _, _, _, h, _, _ | .map _ _ _, _, _, h, _, _ | .hole _, _, _, h, _, _ | .raw _ _, _, _, h, _, _ | .nils, _, _, h, _, _ | .nilp, _, _, h, _, _ => by simp [lie] at h
theorem places_ok : ∀ (fs : List Field), (∀ f ∈ fs, ∃ n, szB C.T f.type n = true) → ∃ pl : List (Nat × Nat), fs.mapM (fun f => (C.P.info? f.type).map fun i => (f.offset, i.size)) = some pl ∧
    ∀ (j : Nat) (f : Field) (n : Nat), fs[j]? = some f → szB C.T f.type n = true → pl[j]? = some (f.offset, n)
  | [], _ => ⟨[], rfl, fun j f n h => by simp at h⟩
  | f :: fs, h => by
    obtain ⟨n, hn⟩ := h f (by simp)
    obtain ⟨i, e1, e2⟩ := sz_ok hn
    obtain ⟨pl, p1, p2⟩ := places_ok fs (fun g hg => h g (by simp [hg]))
    refine ⟨(f.offset, i.size) :: pl, by simp [List.mapM_cons, e1, p1], ?_⟩
    intro j g m hj hm
    cases j with
    | zero =>
      simp at hj
      subst hj
      obtain ⟨i', f1, f2⟩ := sz_ok hm
      rw [e1] at f1
      obtain rfl := Option.some.inj f1
      simp [f2]
    | succ j => simpa using p2 j g m (by simpa using hj) hm
theorem layT_len {σ : St} {len : Bool} {sv : SV} {v : TV} (h : layT σ len sv = some v) : anyLen [sv] = true → len = true := by
  cases sv with
  | v l t a =>
    simp only [layT] at h
    cases hc : (calmT t && (!l || len)) with
    | false => simp [hc] at h
    | true => simp only [Bool.and_eq_true, Bool.or_eq_true, Bool.not_eq_true'] at hc; intro hl; simp [anyLen] at hl; rcases hc.2 with h | h <;> simp_all
  | q l t a => simp [layT] at h
  | _ => intro hl; simp [anyLen] at hl
theorem fillH_ok {I : Set'} {σ : St} (hi : Inv C I β F σ w tm) (hn : nul σ = true) {len : Bool} (place : Nat → Option (Nat × Nat)) :
    ∀ (τ : Ty) (k o : Nat) (qs : List (Nat × SV)) (vs : List (Nat × Value)) (u : Ty) (x : den u) (arr : Array Value), fillH σ len τ k qs = some ⟨u, x⟩ →
      All2 (fun (p : Nat × SV) (q : Nat × Value) => q.1 = p.1 ∧ SVR (hpOf w) C.L I β σ.r p.2 q.2) qs vs → zOkH τ = true →
      (∀ j a o', fldOff τ j = some (o', a) → place (k + j) = some (o + o', a.size)) → o + τ.size ≤ arr.size → (arr.toList.drop o).take τ.size = zeroC τ →
      ∃ arr' cs, Instr.fill place arr vs = some arr' ∧ arr'.size = arr.size ∧ arr'.toList = arr.toList.take o ++ cs ++ arr.toList.drop (o + τ.size) ∧ Rep (hpOf w) (Sx C.L I len) true u x cs [] ∧ Holes β σ.r u cs ∧ u.isAgg = true ∧ u.size = τ.size
  | .unit, k, o, [], [], u, x, arr, hf, _, _, _, _, _ => by
    simp only [fillH, Option.some.injEq, TV.mk.injEq] at hf
    obtain ⟨rfl, hf⟩ := hf
    exact ⟨arr, [], rfl, rfl, by simp [Ty.size], ⟨rfl, rfl⟩, Holes.solid rfl, rfl, rfl⟩
  | .unit, k, o, [], _ :: _, u, x, arr, hf, h, _, _, _, _ => h.elim
  | .unit, k, o, _ :: _, _, u, x, arr, hf, _, _, _, _, _ => by simp [fillH] at hf
  | .pair a b, k, o, qs, vs, u, x, arr, hf, ha, hz, hp, hsz, hzero => by
    simp only [zOkH, Bool.and_eq_true] at hz
    have hp0 : place k = some (o, a.size) := by have := hp 0 a 0 rfl; simpa using this
    have hp1 : ∀ j c o', fldOff b j = some (o', c) → place (k + 1 + j) = some (o + a.size + o', c.size) := by
      intro j c o' hj
      have := hp (j + 1) c (a.size + o') (by simp [fldOff, hj])
      rw [show k + 1 + j = k + (j + 1) by omega, this, Nat.add_assoc]
    have hlA : (zeroC a).length = a.size := zeroC_len hz.1
    have hlB : (zeroC b).length = b.size := zeroC_len hz.2
    have hsz' : o + a.size + b.size ≤ arr.size := by simp only [Ty.size] at hsz; omega
    have hL : arr.toList.length = arr.size := by simp
    have hzA : (arr.toList.drop o).take a.size = zeroC a := by
      have e : (arr.toList.drop o).take a.size = ((arr.toList.drop o).take (Ty.pair a b).size).take a.size := by
        rw [List.take_take]; congr 1; simp only [Ty.size]; omega
      rw [e, hzero, zeroC, List.take_left' hlA]
    have hzB : (arr.toList.drop (o + a.size)).take b.size = zeroC b := by
      have e : (arr.toList.drop (o + a.size)).take b.size = ((arr.toList.drop o).take (Ty.pair a b).size).drop a.size := by
        rw [List.drop_take, List.drop_drop]; congr 1; simp only [Ty.size]; omega
      rw [e, hzero, zeroC, List.drop_left' hlA]
    have hholes : ∀ {u1 u2 : Ty} {c1 c2 : List Value}, u1.size = c1.length → Holes β σ.r u1 c1 → Holes β σ.r u2 c2 → Holes β σ.r (.pair u1 u2) (c1 ++ c2) := by
      intro u1 u2 c1 c2 hl h1 h2 p hp hk
      simp only [holesOf, List.mem_append] at hp
      rcases hp with hp | hp
      · have := (holesOf_lt hp).2
        rw [List.getElem?_append_left (by omega)]
        exact h1 p hp hk
      · rw [holesOf_shift] at hp
        obtain ⟨q, hq, rfl⟩ := List.mem_map.1 hp
        rw [List.getElem?_append_right (by simp only; omega), ← h2 q hq hk]
        congr 1; simp only; omega
    have hskip : ∀ (w' : Ty) (r : den w'), fillH σ len b (k + 1) qs = some ⟨w', r⟩ → TV.mk u x = ⟨.pair (zT a) w', (zV a, r)⟩ → ∃ arr' cs, Instr.fill place arr vs = some arr' ∧ arr'.size = arr.size ∧ arr'.toList = arr.toList.take o ++ cs ++ arr.toList.drop (o + (Ty.pair a b).size) ∧
        Rep (hpOf w) (Sx C.L I len) true u x cs [] ∧ Holes β σ.r u cs ∧ u.isAgg = true ∧ u.size = (Ty.pair a b).size := by
      intro w' r hr he
      simp only [TV.mk.injEq] at he
      obtain ⟨rfl, he⟩ := he
      have := eq_of_heq he
      subst this
      obtain ⟨arr', cs, e1, e2, e3, e4, e5, _, e6⟩ := fillH_ok hi hn place b (k + 1) (o + a.size) qs vs w' r arr hr ha hz.2 hp1 hsz' hzB
      have hza := zT_rep (h := hpOf w) (S := Sx C.L I len) hz.1 true
      have hsz2 : (zT a).size = a.size := by rw [← hza.len, hlA]
      refine ⟨arr', zeroC a ++ cs, e1, e2, ?_, ⟨zeroC a, cs, [], [], rfl, rfl, hza, e4⟩, hholes hza.len.symm (nul_holes hz.1 hn _) e5, rfl, by simp [Ty.size, hsz2, e6]⟩
      rw [e3, List.take_add, hzA]
      simp [Ty.size, Nat.add_assoc]
    cases qs with
    | nil =>
      simp only [fillH] at hf
      cases hr : fillH σ len b (k + 1) [] with
      | none => simp [hr] at hf
      | some r => obtain ⟨w', r⟩ := r; simp only [hr, Option.some.injEq] at hf; exact hskip w' r hr hf.symm
    | cons q qs =>
      obtain ⟨i, v⟩ := q
      simp only [fillH] at hf
      cases hb : Nat.beq i k with
      | false =>
        simp only [hb] at hf
        cases hr : fillH σ len b (k + 1) ((i, v) :: qs) with
        | none => simp [hr] at hf
        | some r => obtain ⟨w', r⟩ := r; simp only [hr, Option.some.injEq] at hf; exact hskip w' r hr hf.symm
      | true =>
        obtain rfl := Nat.eq_of_beq_eq_true hb
        simp only [hb] at hf
        cases vs with
        | nil => exact ha.elim
        | cons q' vs =>
          obtain ⟨j, vv⟩ := q'
          obtain ⟨⟨h1, h2⟩, h3⟩ := ha
          simp only at h1 h2
          subst h1
          have hfield : ∀ (u1 : Ty) (y : den u1), layF σ len a v = some ⟨u1, y⟩ →
              ∃ cs, Rep (hpOf w) (Sx C.L I len) true u1 y cs [] ∧ vv = wrapV u1 cs ∧ Holes β σ.r u1 cs := by
            intro u1 y hfe
            unfold layF at hfe
            cases hfl : a.flat with
            | true =>
              rw [hfl] at hfe
              simp only at hfe
              cases ht : toV len a v with
              | none => simp [ht] at hfe
              | some y' =>
                simp only [ht, Option.some.injEq, TV.mk.injEq] at hfe
                obtain ⟨rfl, he⟩ := hfe
                have := eq_of_heq he
                subst this
                obtain ⟨cs, g1, g2⟩ := toV_ok ht h2
                exact ⟨cs, g1, g2, Holes.solid (flat_solid hfl)⟩
            | false =>
              rw [hfl] at hfe
              simp only at hfe
              obtain ⟨cs, g1, g2, g3, _⟩ := layT_ok hi h2 hfe
              refine ⟨cs, Rep.keep (fun b hb => ⟨?_, rfl⟩) (fun _ _ => rfl) g1, g2, g3⟩
              rcases hb with hb | ⟨hb, hb'⟩
              · exact .inl hb
              · exact .inr ⟨layT_len hfe hb, hb'⟩
          cases hv : layF σ len a v with
          | none => rw [hv] at hf; simp at hf
          | some y =>
            obtain ⟨u1, y⟩ := y
            rw [hv] at hf
            cases hr : fillH σ len b (j + 1) qs with
            | none => simp [hr] at hf
            | some r =>
              obtain ⟨w', r⟩ := r
              simp only [hr] at hf
              cases hsb : Nat.beq u1.size a.size with
              | false => simp [hsb] at hf
              | true =>
                have hus := Nat.eq_of_beq_eq_true hsb
                simp only [hsb, Option.some.injEq, TV.mk.injEq] at hf
                obtain ⟨rfl, hf⟩ := hf
                have := eq_of_heq hf
                subst this
                obtain ⟨cs, hc, hu, hH⟩ := hfield u1 y hv
                have hcl : cs.length = a.size := hc.len.trans hus
                have hcells : vv.cells.toList = cs := by rw [hu]; exact wrapV_cells hc
                obtain ⟨arr1, e1, e2, e3⟩ := fill_cons (v := vv) (rest := vs) hp0 hcells hcl (by omega : o + a.size ≤ arr.size)
                have hlt : (List.take o arr.toList).length = o := by rw [List.length_take, hL]; omega
                have hdrop : List.drop (o + a.size) arr1.toList = List.drop (o + a.size) arr.toList := by
                  rw [e3, List.drop_left' (by rw [List.length_append, hlt, hcl])]
                obtain ⟨arr2, ds, f1, f2, f3, f4, f5, _, f6⟩ := fillH_ok hi hn place b (j + 1) (o + a.size) qs vs w' r arr1 hr h3 hz.2 hp1 (by rw [e2]; exact hsz') (by rw [hdrop]; exact hzB)
                refine ⟨arr2, cs ++ ds, by rw [e1]; exact f1, by rw [f2, e2], ?_, ⟨cs, ds, [], [], rfl, rfl, hc, f4⟩, hholes hc.len.symm hH f5, rfl, by simp [Ty.size, hus, f6]⟩
                have htake : List.take (o + a.size) arr1.toList = List.take o arr.toList ++ cs := by
                  rw [e3, List.take_left' (by rw [List.length_append, hlt, hcl])]
                have hd2 : List.drop (o + a.size + b.size) arr1.toList = List.drop (o + a.size + b.size) arr.toList := by
                  rw [← List.drop_drop, hdrop, List.drop_drop]
                rw [f3, htake, hd2]
                simp [Ty.size, Nat.add_assoc]
  | .int _, _, _, _, _, _, _, _, hf, _, _, _, _, _ | .bool, _, _, _, _, _, _, _, hf, _, _, _, _, _ | .str, _, _, _, _, _, _, _, hf, _, _, _, _, _ | .arr _ _, _, _, _, _, _, _, _, hf, _, _, _, _, _
  | .sl _ _, _, _, _, _, _, _, _, hf, _, _, _, _, _ | .ptr _ _, _, _, _, _, _, _, _, hf, _, _, _, _, _ | .ref _ _, _, _, _, _, _, _, _, hf, _, _, _, _, _ | .map _ _ _, _, _, _, _, _, _, _, hf, _, _, _, _, _
  | .hole _, _, _, _, _, _, _, _, hf, _, _, _, _, _ | .raw _ _, _, _, _, _, _, _, _, hf, _, _, _, _, _ | .nils, _, _, _, _, _, _, _, hf, _, _, _, _, _ | .nilp, _, _, _, _, _, _, _, hf, _, _, _, _, _ => by simp [fillH] at hf
theorem plainL_ok {I : Set'} {σ : St} (hi : Inv C I β F σ w tm) {g : Option (Nat × Bool)} (hg : Gok tm g) : ∀ (ps : List (Nat × Operand)),
    All2 (fun (p : Nat × SV) (q : Nat × Value) => q.1 = p.1 ∧ SVR (hpOf w) C.L I β σ.r p.2 q.2) (plainL C.G g σ ps) (ps.map fun p => (p.1, evT tm p.2))
  | [] => trivial
  | (i, x) :: ps => ⟨⟨rfl, arg_ok hi hg x⟩, plainL_ok hi hg ps⟩
theorem lie_len : ∀ {τ : Ty} {fs : List Field} {o : Nat}, lie C.T τ fs o = true → fs.length = comps τ
  | .unit, [], o, _ => rfl
  | .unit, _ :: _, o, h => by simp [lie] at h
  | .pair a b, [], o, h => by simp [lie] at h
  | .pair a b, f :: fs, o, h => by
    simp only [lie, Bool.and_eq_true] at h
    simp [comps, lie_len h.2]
  | .int _, _, _, h | .bool, _, _, h | .str, _, _, h | .arr _ _, _, _, h | .sl _ _, _, _, h | .ptr _ _, _, _, h | .ref _ _, _, _, h | .map _ _ _, _, _, h | .hole _, _, _, h | .raw _ _, _, _, h | .nils, _, _, h | .nilp, _, _, h => by simp [lie] at h
theorem fld_some : ∀ {τ : Ty} {i : Nat}, i < comps τ → ∃ o a, fldOff τ i = some (o, a)
  | .pair a b, 0, _ => ⟨_, _, rfl⟩
  | .pair a b, i + 1, h => by
    obtain ⟨o, c, e⟩ := fld_some (τ := b) (i := i) (by simp only [comps] at h; omega)
    exact ⟨a.size + o, c, by simp [fldOff, e]⟩
  | .unit, i, h | .int _, i, h | .bool, i, h | .str, i, h | .arr _ _, i, h | .sl _ _, i, h | .ptr _ _, i, h | .ref _ _, i, h | .map _ _ _, i, h | .hole _, i, h | .raw _ _, i, h | .nils, i, h | .nilp, i, h => by simp [comps] at h
theorem fld_lt : ∀ {τ : Ty} {i j oi oj : Nat} {a b : Ty}, fldOff τ i = some (oi, a) → fldOff τ j = some (oj, b) → i < j → oi + a.size ≤ oj
  | .pair a b, i, 0, oi, oj, c, d, _, _, h => by omega
  | .pair a b, 0, j + 1, oi, oj, c, d, h1, h2, _ => by
    simp only [fldOff, Option.some.injEq, Prod.mk.injEq] at h1
    obtain ⟨rfl, rfl⟩ := h1
    cases hb : fldOff b j with
    | none => simp [fldOff, hb] at h2
    | some q => obtain ⟨o', e⟩ := q; simp [fldOff, hb] at h2; omega
  | .pair a b, i + 1, j + 1, oi, oj, c, d, h1, h2, h => by
    cases hb : fldOff b j with
    | none => simp [fldOff, hb] at h2
    | some q =>
      obtain ⟨o', e⟩ := q
      cases hc : fldOff b i with
      | none => simp [fldOff, hc] at h1
      | some r =>
        obtain ⟨o'', e'⟩ := r
        simp [fldOff, hb] at h2
        simp [fldOff, hc] at h1
        obtain ⟨h2a, rfl⟩ := h2
        obtain ⟨h1a, rfl⟩ := h1
        have := fld_lt hc hb (by omega)
        omega
  | .unit, i, j, _, _, _, _, h, _, _ | .int _, i, j, _, _, _, _, h, _, _ | .bool, i, j, _, _, _, _, h, _, _ | .str, i, j, _, _, _, _, h, _, _ | .arr _ _, i, j, _, _, _, _, h, _, _ | .sl _ _, i, j, _, _, _, _, h, _, _ | .ptr _ _, i, j, _, _, _, _, h, _, _ | .ref _ _, i, j, _, _, _, _, h, _, _ | .map _ _ _, i, j, _, _, _, _, h, _, _ | .hole _, i, j, _, _, _, _, h, _, _ | .raw _ _, i, j, _, _, _, _, h, _, _ | .nils, i, j, _, _, _, _, h, _, _ | .nilp, i, j, _, _, _, _, h, _, _ => by simp [fldOff] at h
theorem mapM_len {α γ : Type} {f : α → Option γ} : ∀ {l : List α} {m : List γ}, l.mapM f = some m → m.length = l.length
  | [], m, h => by simp at h; subst h; rfl
  | x :: l, m, h => by
    simp only [List.mapM_cons, Option.bind_eq_bind, Option.pure_def] at h
    cases hx : f x with
    | none => simp [hx] at h
    | some y =>
      cases hl : l.mapM f with
      | none => simp [hx, hl] at h
      | some r =>
        simp [hx, hl] at h
        subst h
        simp [mapM_len hl]
theorem opBuild_ok {I : Set'} {σ σ' : St} (hi : Inv C I β F σ w tm) {g : Option (Nat × Bool)} (hg : Gok tm g) {t : TypeId} {τ : Ty} {ps : List (Nat × Operand)} {sv : SV} (he : opBuild C.T t τ C.G g ps σ = some (true, sv, σ')) :
    After C I (fun _ => False) σ' w tm sv ((Instr.build t (ps.map fun p => (p.1, evT tm p.2)).toArray).run C.P w) := by
  unfold opBuild at he
  split at he
  · rename_i fs hu
    split at he
    · rename_i hflat
      split at he
      · rename_i hz
        simp only [Bool.and_eq_true] at hz
        cases hs : sharedL C.G g σ ps with
        | mk qs σ1 =>
          simp only [hs] at he
          cases hnd : nodupN (keysOf qs) with
          | false => simp [hnd] at he
          | true =>
          simp only [hnd] at he
          cases hf : fillF (anyLenP qs) τ 0 (sortQ qs) with
          | none => simp [hf] at he
          | some x =>
            simp only [hf] at he
            split at he
            · rename_i hq
              simp only [Option.some.injEq, Prod.mk.injEq, true_and] at he
              obtain ⟨rfl, rfl⟩ := he
              obtain ⟨I', hi1, hless, ha⟩ := sharedL_ok hg ps hi hs
              obtain ⟨hzo, j, z, e1, e2, e3⟩ := zeroH_ok hz.1.1
              have hfo := lie_ok (C := C) τ fs.toList 0 hz.2
              obtain ⟨pl, p1, p2⟩ := places_ok (C := C) fs.toList (lie_all τ fs.toList 0 hz.2)
              have hzl : (zeroC τ).length = τ.size := zeroC_len hzo
              have hzs : z.cells.size = τ.size := by rw [← Array.length_toList, e3, hzl]
              have ha2 := all2_sort (fun _ _ h => h.1) ha
              have hkn := all2_keys (fun _ _ h => h.1) ha
              obtain ⟨arr', cs, f1, f2, f3, f4⟩ := fillF_ok (h := hpOf w) (L := C.L) (I := I') (β := β) (ρ := σ1.r) (fs := []) (fun _ _ _ => trivial) (pl[·]?) τ 0 0 (sortQ qs) _ x z.cells hf ha2 hzo
                (by
                  simp only [Bool.or_eq_true] at hq
                  rcases hq with hq | hq
                  · exact .inl hq
                  · refine .inr ?_
                    rw [sortQ_len, Nat.eq_of_beq_eq_true hq, ← lie_len hz.2]; simp)
                (fun j a o' hj => by
                  obtain ⟨f, g1, g2, g3⟩ := hfo j a o' hj
                  have := p2 j f a.size g1 g3
                  simp only [Nat.zero_add, this]
                  rw [g2, Nat.zero_add]) (by rw [hzs]; omega) (by rw [e3, List.drop_zero, List.take_of_length_le (by rw [hzl]; exact Nat.le_refl _)])
              have hpl : pl.length = comps τ := by rw [mapM_len p1, lie_len hz.2]
              have hplace : ∀ i o n, pl[i]? = some (o, n) → ∃ a, fldOff τ i = some (o, a) ∧ n = a.size := by
                intro i o n hi'
                have hil : i < comps τ := by rw [← hpl]; exact (List.getElem?_eq_some_iff.1 hi').1
                obtain ⟨o', a, hoa⟩ := fld_some hil
                obtain ⟨f, g1, g2, g3⟩ := hfo i a o' hoa
                have := p2 i f a.size g1 g3
                rw [this] at hi'
                simp only [Option.some.injEq, Prod.mk.injEq] at hi'
                refine ⟨a, ?_, hi'.2.symm⟩
                rw [hoa, ← hi'.1, g2, Nat.zero_add]
              rw [fill_sort (fun i j oi ni oj nj hij h1 h2 => by
                obtain ⟨a, q1, rfl⟩ := hplace _ _ _ h1
                obtain ⟨b, q2, rfl⟩ := hplace _ _ _ h2
                rcases Nat.lt_or_gt_of_ne hij with h | h
                · exact .inl (fld_lt q1 q2 h)
                · exact .inr (fld_lt q2 q1 h)) _ _ (by rw [hkn]; rw [← keysOf_eq]; exact nodupN_iff' hnd)] at f1
              have hcs : arr'.toList = cs := by
                rw [f3]
                have : List.drop (0 + τ.size) z.cells.toList = [] := by rw [List.drop_eq_nil_iff, e3, hzl]; omega
                rw [this]; simp
              have hrun : (Instr.build t (ps.map fun p => (p.1, evT tm p.2)).toArray).run C.P w = .ok (.agg arr') w := by
                simp [Instr.build, run_underlying (und_ok hu), typeInfo, zeroValue, e1, e2, Array.mapM_eq_mapM_toList, run_places w _ _ p1, f1]
              rw [hrun]
              refine ⟨_, w, I', β, F, rfl, hi1, ⟨cs, f4, ?_, Holes.solid (flat_solid hflat)⟩, hless.sub, Nat.le_refl _, fun _ _ _ => rfl⟩
              rw [wrapV, if_pos hz.1.2, ← hcs]
            · simp at he
      · simp at he
    · split at he
      · rename_i hz
        simp only [Bool.and_eq_true] at hz
        obtain ⟨hz, hnul⟩ := hz
        split at he
        · rename_i u x hf
          simp only [Option.some.injEq, Prod.mk.injEq, true_and] at he
          obtain ⟨rfl, rfl⟩ := he
          have ha := plainL_ok hi hg ps
          obtain ⟨hzo, j, z, e1, e2, e3⟩ := zeroH_ok hz.1.1
          have hfo := lie_ok (C := C) τ fs.toList 0 hz.2
          obtain ⟨pl, p1, p2⟩ := places_ok (C := C) fs.toList (lie_all τ fs.toList 0 hz.2)
          have hzl : (zeroC τ).length = τ.size := zeroC_len hzo
          have hzs : z.cells.size = τ.size := by rw [← Array.length_toList, e3, hzl]
          obtain ⟨arr', cs, f1, f2, f3, f4, f5, f6, f7⟩ := fillH_ok hi hnul (pl[·]?) τ 0 0 _ _ u x z.cells hf ha hzo
            (fun j a o' hj => by
              obtain ⟨f, g1, g2, g3⟩ := hfo j a o' hj
              have := p2 j f a.size g1 g3
              simp only [Nat.zero_add, this]
              rw [g2, Nat.zero_add]) (by rw [hzs]; omega) (by rw [e3, List.drop_zero, List.take_of_length_le (by rw [hzl]; exact Nat.le_refl _)])
          have hcs : arr'.toList = cs := by
            rw [f3]
            have : List.drop (0 + τ.size) z.cells.toList = [] := by rw [List.drop_eq_nil_iff, e3, hzl]; omega
            rw [this]; simp
          have hrun : (Instr.build t (ps.map fun p => (p.1, evT tm p.2)).toArray).run C.P w = .ok (.agg arr') w := by
            simp [Instr.build, run_underlying (und_ok hu), typeInfo, zeroValue, e1, e2, Array.mapM_eq_mapM_toList, run_places w _ _ p1, f1]
          rw [hrun]
          refine ⟨_, w, I, β, F, rfl, hi, ⟨cs, f4, ?_, f5⟩, fun _ h => h, Nat.le_refl _, fun _ _ _ => rfl⟩
          rw [wrapV, if_pos f6, ← hcs]
        · simp at he
      · simp at he
  · simp at he
end
end Go.Proofs.YthlpjdjipchdkaaDoor.E

namespace Go.Proofs.YthlpjdjipchdkaaDoor.E
open Go
set_option linter.unusedSimpArgs false
set_option linter.unusedVariables false
def ElR (h : Hp) (S : Set') (u : Ty) (ys : List (den u)) (cs : List Value) (v : Value) : Prop :=
  RL (Rep h S true u) ys cs [] ∧ ((∃ s : List UInt8, v = .string ⟨⟨s⟩⟩ ∧ u.size = 1 ∧ s.length = ys.length ∧ cs = s.map fun c => Value.int .u8 (c.toNat : Int)) ∨
    ∃ a c, v = .slice a ys.length c ∧ ys.length ≤ c ∧ ((ys = [] ∧ a = a ∧ c = 0) ∨ ∃ b o arr E fr, a = some ⟨b, o, none⟩ ∧ h b = some (.cells arr E fr) ∧ o + c * u.size ≤ arr.size ∧ cs = (arr.toList.drop o).take (ys.length * u.size)))
theorem rep_str_bytes {h : Hp} {S : Set'} : ∀ s : List UInt8, RL (Rep h S true (.int .u8)) (s.map fun c => (c.toNat : Int)) (s.map fun c => Value.int .u8 (c.toNat : Int)) []
  | [] => ⟨rfl, rfl⟩
  | c :: s => ⟨[_], _, [], [], rfl, rfl, ⟨rfl, rfl⟩, rep_str_bytes s⟩
theorem ElR.of_rep {h : Hp} {S : Set'} {o : Bool} {u : Ty} {xs : List (den u)} {v : Value} (hr : Rep h S true (.sl o u) xs [v] []) : ∃ cs, ElR h S u xs cs v := by
  obtain ⟨a, c, e1, e2, e3⟩ := hr
  simp only [List.cons.injEq, and_true] at e1
  rcases e3 with ⟨g1, g2, g3, _⟩ | ⟨b, of, arr, E', fr, X', g1, g2, g3, g4, g5⟩
  · subst g1
    exact ⟨[], ⟨rfl, rfl⟩, .inr ⟨a, c, e1, e2, .inl ⟨rfl, g2, g3⟩⟩⟩
  · simp only [Bool.not_true, Bool.and_false, Bool.false_eq_true, if_false] at g5
    obtain ⟨_, _, rfl⟩ := g5
    exact ⟨_, g4, .inr ⟨a, c, e1, e2, .inr ⟨b, of, arr, E', fr, g1, g2, g3, rfl⟩⟩⟩
theorem ElR.of_root {h : Hp} {L I : Set'} {β : Value} {f l : Bool} {u : Ty} {xs : List (den u)} {X : List Nat} (hr : RootR h L I β (.arr f l u xs) X) (hf : u.flat = true) :
    ∃ a c cs, β = .slice a xs.length c ∧ xs.length ≤ c ∧ RL (Rep h (Sx L I l) true u) xs cs [] ∧
      ((xs = [] ∧ a = a ∧ c = 0 ∧ cs = [] ∧ X = []) ∨ ∃ b o arr E fr, a = some ⟨b, o, none⟩ ∧ h b = some (.cells arr E fr) ∧ o + c * u.size ≤ arr.size ∧ cs = (arr.toList.drop o).take (xs.length * u.size) ∧ X = [b] ∧ calmS u arr.size fr) := by
  obtain ⟨⟨a, c, e1, e2, e3⟩, _⟩ := hr
  simp only [List.cons.injEq, and_true] at e1
  rcases e3 with ⟨g1, g2, g3, g4⟩ | ⟨b, of, arr, E', fr, X', g1, g2, g3, g4, g5⟩
  · subst g1
    exact ⟨a, c, [], e1, e2, ⟨rfl, rfl⟩, .inl ⟨rfl, g2, g3, rfl, g4⟩⟩
  · simp only [Bool.and_true, if_true, Bool.not_false] at g5
    have h1 : RL (Rep h (Sx L I l) true u) xs ((arr.toList.drop of).take (xs.length * u.size)) X' :=
      RL.mono_mem (fun x c Y _ hY hr => by obtain ⟨e, r⟩ := Rep.flat (t := u) hf hr; rw [e]; exact r) g4
    have h2 := RL.nilX (fun _ _ _ => Rep.lentX) h1
    have hX := RL.noX (fun _ _ _ => Rep.lentX) h1
    exact ⟨a, c, _, e1, e2, h2, .inr ⟨b, of, arr, E', fr, g1, g2, g3, rfl, by rw [g5.1, hX], g5.2⟩⟩
section
variable {C : Ctx} {I : Set'} {β : Nat → Value} {F : Nat → List Nat} {σ : St} {w : World} {tm : Array Value}
theorem run_lenOf {h : Hp} {S : Set'} {u : Ty} {ys : List (den u)} {cs : List Value} {v : Value} (he : ElR h S u ys cs v) : (Builtin.lenOf v).run C.P w = .ok ys.length w := by
  rcases he.2 with ⟨s, rfl, _, hl, _⟩ | ⟨a, c, rfl, _⟩
  · simp [Builtin.lenOf, ByteArray.size, hl]
  · rfl
theorem run_first {S : Set'} {u : Ty} {ys : List (den u)} {cs : List Value} {v : Value} (he : ElR (hpOf w) S u ys cs v) {w' : World} (hw : w'.heap = w.heap) (k : Nat) (hk : k ≤ ys.length) :
    (Builtin.firstCells u.size k v).run C.P w' = .ok (cs.take (k * u.size)).toArray w' := by
  have hle : k * u.size ≤ ys.length * u.size := Nat.mul_le_mul_right _ hk
  rcases he.2 with ⟨s, rfl, h1, hl, rfl⟩ | ⟨a, c, rfl, hc, ⟨rfl, _, rfl⟩ | ⟨b, o, arr, E', fr, rfl, hb, ho, rfl⟩⟩
  · simp only [Builtin.firstCells, ba_extract, h1, Nat.mul_one, Sem.run_pure]
    congr 1
    apply Array.toList_inj.1
    simp [List.map_take]
  · obtain ⟨rfl, _⟩ := he.1
    simp at hk
    subst hk
    cases a with
    | none => simp [Builtin.firstCells]
    | some a => simp [Builtin.firstCells, loadCells, loadCellsFrom]
  · have hle2 : ys.length * u.size ≤ c * u.size := Nat.mul_le_mul_right _ hc
    have hb' : hpOf w' b = some (.cells arr E' fr) := by simp only [hpOf] at hb ⊢; rw [hw]; exact hb
    simp only [Builtin.firstCells]
    rw [run_cells (n := k * u.size) hb' (by omega), List.take_take]
    congr 3
    omega
theorem elems_ok (hi : Inv C I β F σ w tm) {u : Ty} {sv : SV} {v : Value} {l : Bool} {ys : List (den u)} (hs : SVR (hpOf w) C.L I β σ.r sv v) (hf : u.flat = true) (he : elems σ u sv = some (l, ys)) :
    ∃ cs, RL (Rep (hpOf w) (Sx C.L I l) true u) ys cs [] ∧ ∃ S, ElR (hpOf w) S u ys cs v ∧
      (∀ r, sv.root = some r → ∃ a c, v = .slice a ys.length c ∧ ys.length ≤ c ∧ ((ys = [] ∧ a = a ∧ c = 0) ∨ ∃ b o arr E fr, a = some ⟨b, o, none⟩ ∧ hpOf w b = some (.cells arr E fr) ∧ o + c * u.size ≤ arr.size ∧ cs = (arr.toList.drop o).take (ys.length * u.size) ∧
        F r = [b] ∧ calmS u arr.size fr)) := by
  cases sv with
  | v len t xs =>
    cases t with
    | sl o t =>
      simp only [elems] at he
      cases hc : cast? (t := .sl false t) (.sl false u) xs with
      | none => simp [hc] at he
      | some zs =>
        simp [hc] at he
        obtain ⟨rfl, rfl⟩ := he
        obtain ⟨h1, h2⟩ := cast?_some hc
        simp only [Ty.sl.injEq, true_and] at h1
        subst h1
        have := eq_of_heq h2
        subst this
        obtain ⟨c1, hr, rfl, _⟩ := hs
        obtain ⟨v0, rfl⟩ : ∃ v0, c1 = [v0] := by have := hr.len; simp [Ty.size] at this; exact List.length_eq_one_iff.1 this
        obtain ⟨cs, hel⟩ := ElR.of_rep hr
        refine ⟨cs, hel.1, _, by simpa [wrapV, Ty.isAgg] using hel, by simp [SV.root]⟩
    | str =>
      simp only [elems] at he
      cases hc : cast? (t := .sl false (.int .u8)) (.sl false u) (List.map (fun c : UInt8 => (c.toNat : Int)) xs) with
      | none => simp [hc] at he
      | some zs =>
        simp [hc] at he
        obtain ⟨rfl, rfl⟩ := he
        obtain ⟨h1, h2⟩ := cast?_some hc
        simp only [Ty.sl.injEq, true_and] at h1
        subst h1
        have := eq_of_heq h2
        subst this
        obtain rfl := of_str hs
        exact ⟨_, rep_str_bytes xs, Sx C.L I false, ⟨rep_str_bytes xs, .inl ⟨xs, rfl, rfl, by simp, rfl⟩⟩, by simp [SV.root]⟩
    | _ => simp [elems] at he
  | nl =>
    simp [elems] at he
    obtain ⟨rfl, rfl⟩ := he
    obtain ⟨a0, rfl⟩ : ∃ a0, v = .slice a0 0 0 := hs
    exact ⟨[], ⟨rfl, rfl⟩, Sx C.L I false, ⟨⟨rfl, rfl⟩, .inr ⟨a0, 0, rfl, Nat.le_refl _, .inl ⟨rfl, rfl, rfl⟩⟩⟩, by simp [SV.root]⟩
  | sf r =>
    simp only [elems] at he
    obtain ⟨f', l', t, xs, hl, rfl⟩ := hs
    simp only [hl] at he
    cases hc : cast? (t := .sl false t) (.sl false u) xs with
    | none => simp [hc] at he
    | some zs =>
      simp [hc] at he
      obtain ⟨rfl, rfl⟩ := he
      obtain ⟨h1, h2⟩ := cast?_some hc
      simp only [Ty.sl.injEq, true_and] at h1
      subst h1
      have := eq_of_heq h2
      subst this
      obtain ⟨a, c, cs, e1, e2, e3, e4⟩ := ElR.of_root (hi.roots r _ hl) hf
      refine ⟨cs, e3, Sx C.L I l', ⟨e3, .inr ⟨a, c, e1, e2, ?_⟩⟩, ?_⟩
      · rcases e4 with ⟨g1, g2, g3, g4, _⟩ | ⟨b, o, arr, E', fr, g1, g2, g3, g4, g5, g6⟩
        · exact .inl ⟨g1, g2, g3⟩
        · exact .inr ⟨b, o, arr, E', fr, g1, g2, g3, g4⟩
      · intro r' hr'
        simp [SV.root] at hr'
        subst hr'
        refine ⟨a, c, e1, e2, ?_⟩
        rcases e4 with ⟨g1, g2, g3, g4, _⟩ | ⟨b, o, arr, E', fr, g1, g2, g3, g4, g5, g6⟩
        · exact .inl ⟨g1, g2, g3⟩
        · exact .inr ⟨b, o, arr, E', fr, g1, g2, g3, g4, g5, g6⟩
  | s r lo n =>
    simp only [elems] at he
    obtain ⟨f', l', t, xs, hl, hn, hsub⟩ := hs
    simp only [hl] at he
    cases hc : cast? (t := .sl false t) (.sl false u) xs with
    | none => simp [hc] at he
    | some zs =>
      simp [hc] at he
      obtain ⟨rfl, rfl⟩ := he
      obtain ⟨h1, h2⟩ := cast?_some hc
      simp only [Ty.sl.injEq, true_and] at h1
      subst h1
      have := eq_of_heq h2
      subst this
      obtain ⟨a, c, cs, e1, e2, e3, e4⟩ := ElR.of_root (hi.roots r _ hl) hf
      obtain ⟨a0, m, c0, a', c', f1, f2, f3, f4, f5⟩ := hsub
      rw [f1] at e1
      simp only [Value.slice.injEq] at e1
      obtain ⟨rfl, rfl, rfl⟩ := e1
      have hlen : ((xs.drop lo).take n).length = n := by simp; omega
      obtain ⟨Y, hY, d1⟩ := RL.drop (fun _ _ _ => Rep.len) lo e3
      obtain ⟨Z, hZ, d2⟩ := RL.take (fun _ _ _ => Rep.len) n d1
      have d2 := RL.nilX (fun _ _ _ => Rep.lentX) d2
      have key : ((xs.drop lo).take n = [] ∧ a' = a' ∧ c' = 0) ∨ ∃ b o arr E fr, a' = some ⟨b, o, none⟩ ∧ hpOf w b = some (.cells arr E fr) ∧ o + c' * t.size ≤ arr.size ∧
          List.take (n * t.size) (List.drop (lo * t.size) cs) = (arr.toList.drop o).take (((xs.drop lo).take n).length * t.size) ∧ F r = [b] ∧ calmS t arr.size fr := by
        rcases e4 with ⟨g1, g2, g3, g4, _⟩ | ⟨b, o, arr, E', fr, g1, g2, g3, g4, g5, g6⟩
        · subst g1
          simp at hn
          exact .inl ⟨by simp, rfl, by omega⟩
        · rcases f5 with ⟨_, _, f5⟩ | ⟨b', o', k, f5, f6, f7, f8⟩
          · refine .inl ⟨?_, rfl, f5⟩
            have : n = 0 := by omega
            subst this; simp
          · rw [g1] at f5
            simp only [Option.some.injEq, Addr.mk.injEq, and_true] at f5
            obtain ⟨rfl, rfl⟩ := f5
            have hle : k * t.size + c' * t.size ≤ c0 * t.size := by rw [← Nat.add_mul]; exact Nat.mul_le_mul_right _ f7
            refine .inr ⟨b, o + k * t.size, arr, E', fr, f6, g2, by omega, ?_, g5, g6⟩
            rw [hlen]
            rcases f8 with f8 | f8
            · have : n = 0 := by omega
              subst this
              simp
            subst f8
            have : n * t.size + k * t.size ≤ xs.length * t.size := by rw [← Nat.add_mul]; exact Nat.mul_le_mul_right _ (by omega)
            rw [g4, List.drop_take, List.take_take, List.drop_drop]
            congr 1; omega
      refine ⟨_, d2, Sx C.L I l', ⟨d2, .inr ⟨a', c', by rw [hlen]; exact f2, by rw [hlen]; exact f3, ?_⟩⟩, ?_⟩
      · rcases key with k | ⟨b, o, arr, E', fr, k1, k2, k3, k4, _⟩
        · exact .inl k
        · exact .inr ⟨b, o, arr, E', fr, k1, k2, k3, k4⟩
      · intro r' hr'
        simp [SV.root] at hr'
        subst hr'
        exact ⟨a', c', by rw [hlen]; exact f2, by rw [hlen]; exact f3, key⟩
  | _ => simp [elems] at he
theorem run_app_room {t t2 ty e : TypeId} {k2 : TypeDesc} {n : Nat} (hu : C.P.underlying t = some (.slice e)) (hu2 : C.P.underlying t2 = some k2) (hk : k2 = .string ∨ ∃ e', k2 = .slice e') (hs : szB C.T e n = true)
    {a : Option Addr} {sLen sCap m : Nat} {x : Value} {news : List Value} (hl : (Builtin.lenOf x).run C.P w = .ok m w) (hf : (Builtin.firstCells n m x).run C.P w = .ok news.toArray w) (hroom : sLen + m ≤ sCap) :
    (Builtin.append_ #[t, t2] ty #[.slice a sLen sCap, x]).run C.P w =
      Result.andThen ((match a with | some a => (storeCells (a.add (sLen * n)) news) | none => (pure () : Sem Unit)).run C.P w) fun _ w => .ok (.slice a (sLen + m) sCap) w := by
  rcases hk with rfl | ⟨e', rfl⟩
  · cases a with
    | none => simp [Builtin.append_, run_underlying hu, run_underlying hu2, run_size hs, hl, hf, hroom]
    | some a => simp [Builtin.append_, run_underlying hu, run_underlying hu2, run_size hs, hl, hf, hroom]
  · cases a with
    | none => simp [Builtin.append_, run_underlying hu, run_underlying hu2, run_size hs, hl, hf, hroom]
    | some a => simp [Builtin.append_, run_underlying hu, run_underlying hu2, run_size hs, hl, hf, hroom]
theorem run_app_grow {t t2 ty e : TypeId} {k2 : TypeDesc} {n : Nat} (hu : C.P.underlying t = some (.slice e)) (hu2 : C.P.underlying t2 = some k2) (hk : k2 = .string ∨ ∃ e', k2 = .slice e') (hs : szB C.T e n = true)
    {i : TypeInfo} {z : Value} (hi : C.P.info? e = some i) (hz : i.zero = some z) (hb : 1 ≤ i.bytes)
    {a : Option Addr} {sLen sCap m : Nat} {x : Value} {olds news : List Value} (hl : (Builtin.lenOf x).run C.P w = .ok m w) (hf : (Builtin.firstCells n m x).run C.P w.drew = .ok news.toArray w.drew)
    (ho : (Builtin.firstCells n sLen (.slice a sLen sCap)).run C.P w.drew = .ok olds.toArray w.drew)
    (hroom : sCap < sLen + m) (hfit : (sLen + m) * i.bytes ≤ 140737488355328) :
    (Builtin.append_ #[t, t2] ty #[.slice a sLen sCap, x]).run C.P w =
      .ok (.slice (some ⟨w.heap.size, 0, none⟩) (sLen + m) (grownCap w (sLen + m) sCap e))
        (w.drew.alloc (.cells (olds.toArray ++ news.toArray ++ Builtin.zeroCells z.cells (grownCap w (sLen + m) sCap e - (sLen + m))) e)) := by
  have hn : ¬ (sLen + m ≤ sCap) := by omega
  have hb0 : i.bytes ≠ 0 := by omega
  have h48' : ¬ (281474976710656 < Builtin.nextslicecap (sLen + m) sCap * i.bytes) := by
    have := growslice_fits hroom hfit; omega
  have hc : ∀ z : Array Value, olds.toArray ++ (news.toArray ++ z) = (olds ++ news).toArray ++ z := fun z => by apply Array.toList_inj.1; simp only [Array.toList_append, List.append_assoc]
  rcases hk with rfl | ⟨e', rfl⟩
  · simp [-List.append_toArray, hc, Builtin.append_, run_underlying hu, run_underlying hu2, run_size hs, typeInfo, zeroValue, hi, hz, hl, hf, ho, hn, hb0, h48', Question.forced, newRow, grownCap]
  · simp [-List.append_toArray, hc, Builtin.append_, run_underlying hu, run_underlying hu2, run_size hs, typeInfo, zeroValue, hi, hz, hl, hf, ho, hn, hb0, h48', Question.forced, newRow, grownCap]
theorem freeN_del {d r : Nat} : ∀ {ρ : List (Nat × Root)}, freeN d ρ = true → freeN d (del ρ r) = true
  | [], _ => rfl
  | (n, R0) :: ρ, hf => by
    have hrest : freeN d ρ = true := by
      cases R0 with
      | box l t a => simp only [freeN, Bool.and_eq_true] at hf; exact hf.2
      | arr f l t xs => simpa [freeN] using hf
      | map l kt vt es z => cases z with
        | none => simpa [freeN] using hf
        | some p => obtain ⟨y, j⟩ := p; simp only [freeN, Bool.and_eq_true] at hf; exact hf.2
    have ih := freeN_del (r := r) hrest
    simp only [del]
    cases Nat.beq n r with
    | true => exact ih
    | false =>
      cases R0 with
      | box l t a => simp only [freeN, Bool.and_eq_true] at hf ⊢; exact ⟨hf.1, ih⟩
      | arr f l t xs => simpa [freeN] using ih
      | map l kt vt es z => cases z with
        | none => simpa [freeN] using ih
        | some p => obtain ⟨y, j⟩ := p; simp only [freeN, Bool.and_eq_true] at hf ⊢; exact ⟨hf.1, ih⟩
theorem RL.upP {h : Hp} {L I : Set'} {l l' : Bool} {u : Ty} {xs : List (den u)} {cs : List Value} (hl : l = true → l' = true ∨ u.plain = true) (hr : RL (Rep h (Sx L I l) true u) xs cs []) : RL (Rep h (Sx L I l') true u) xs cs [] := by
  cases hp : u.plain with
  | true => exact RL.mono_mem (fun x c Y _ hY hr => by
      have : Y = [] := by cases Y with | nil => rfl | cons b Y => exact absurd (hY b (by simp)) (by simp)
      subst this
      exact plain_rep hp hr) hr
  | false =>
    have hl' : l = true → l' = true := fun h => (hl h).resolve_right (by simp [hp])
    exact RL.mono_mem (fun x c Y _ _ hr => Rep.keep (fun b hb => ⟨by rcases hb with hb | ⟨h1, h2⟩; exact .inl hb; exact .inr ⟨hl' h1, h2⟩, rfl⟩) (fun _ _ => rfl) hr) hr
theorem RL.up {h : Hp} {L I : Set'} {l l' : Bool} {u : Ty} {xs : List (den u)} {cs : List Value} (hl : l = true → l' = true) (hr : RL (Rep h (Sx L I l) true u) xs cs []) : RL (Rep h (Sx L I l') true u) xs cs [] :=
  RL.mono_mem (fun x c Y _ _ hr => Rep.keep (fun b hb => ⟨by rcases hb with hb | ⟨h1, h2⟩; exact .inl hb; exact .inr ⟨hl h1, h2⟩, rfl⟩) (fun _ _ => rfl) hr) hr
theorem app_room (hi : Inv C I β F σ w tm) {d r b o c : Nat} {R : Root} (hfree : freeN d (σ.kill r).r = true) (hl : look σ.r r = some R) (hF : F r = [b]) {arr : Array Value} {E' : TypeId} {fr : Nat × Nat}
    (hb : hpOf w b = some (.cells arr E' fr)) {u : Ty} (hc : calmS u arr.size fr) (hf : u.flat = true) {l : Bool} {xs ys : List (den u)} {cx cy : List Value} (hcap : o + c * u.size ≤ arr.size)
    (hx : RL (Rep (hpOf w) (Sx C.L I l) true u) xs cx []) (hy : RL (Rep (hpOf w) (Sx C.L I l) true u) ys cy []) (he : cx = (arr.toList.drop o).take (xs.length * u.size)) (hn : xs.length + ys.length ≤ c) :
    ∃ w', (storeCells ⟨b, o + xs.length * u.size, none⟩ cy).run C.P w = .ok () w' ∧ w'.heap.size = w.heap.size ∧ (∀ k, k ≠ b → hpOf w' k = hpOf w k) ∧
      Inv C I (updF β d (.slice (some ⟨b, o, none⟩) (xs.length + ys.length) c)) (updF F d [b]) ((σ.kill r).new d (.arr false l u (xs ++ ys))) w' tm := by
  have hlx := RL.len (fun _ _ _ => Rep.len) hx
  have hly := RL.len (fun _ _ _ => Rep.len) hy
  have h1 : xs.length * u.size + ys.length * u.size ≤ c * u.size := by rw [← Nat.add_mul]; exact Nat.mul_le_mul_right _ hn
  have hone : ∀ v ∈ cy, v.oneCell' = true := RL.one (fun _ _ _ hr => Rep.one hr) hy
  obtain ⟨w', arr', g1, g2, g3, g4, g5, g6, g7⟩ := run_store_cells (C := C) (b := b) (o := o + xs.length * u.size) (E := E') (fr := fr) cy 0 arr w hb (calm_of hc) (by rw [hly]; omega) hone
  refine ⟨w', g1, g6, g5, ?_⟩
  have hown := hi.own r R hl b (by rw [hF]; simp)
  have hI : ∀ k, I k → hpOf w' k = hpOf w k := fun k hk => g5 k (by rintro rfl; exact hown.1 hk)
  have hL : ∀ k, C.L k → hpOf w' k = hpOf w k := fun k hk => g5 k (by rintro rfl; exact hown.2.1 hk)
  refine (hi.kill r).new d _ _ [b] hfree (by omega) g7 (fun k _ hk => g5 k (by rintro rfl; simp at hk)) ⟨?_, by simp⟩ trivial (by simp) ?_ ?_
  · refine ⟨some ⟨b, o, none⟩, c, by simp, by simpa using hn, .inr ⟨b, o, arr', E', fr, [], rfl, g2, by rw [g3]; exact hcap, ?_, ?_⟩⟩
    · have hcs : List.take ((xs ++ ys).length * u.size) (List.drop o arr'.toList) = cx ++ cy := by
        have hal : arr.toList.length = arr.size := by simp
        have e1 : (List.take (o + xs.length * u.size + 0) arr.toList).drop o = cx := by
          rw [Nat.add_zero, List.drop_take, he]; congr 1; omega
        have e2 : List.drop o arr'.toList = (cx ++ cy) ++ List.drop (o + xs.length * u.size + 0 + cy.length) arr.toList := by
          rw [g4, List.append_assoc, List.drop_append_of_le_length (by simp; omega), e1, List.append_assoc]
        rw [e2, List.take_left' (by simp only [List.length_append, hlx, hly]; rw [Nat.add_mul])]
      rw [hcs]
      have hxy := RL.append hx hy
      exact RL.mono_mem (fun x c Y _ hY hr => by
        have : Y = [] := by cases Y with | nil => rfl | cons b Y => exact absurd (hY b (by simp)) (by simp)
        subst this
        refine rep_any hf (Rep.keep (fun k hk => ⟨hk, ?_⟩) (fun _ hk => by simp at hk) hr)
        rcases hk with hk | ⟨_, hk⟩
        · exact hI k hk
        · exact hL k hk) hxy
    · rw [if_pos (by rfl)]
      exact ⟨rfl, by rw [g3]; exact hc⟩
  · intro k hk
    simp at hk
    subst hk
    exact ⟨hown.1, hown.2.1, by omega, hown.2.2.2⟩
  · intro k R' hk hl' k' hk' hm
    simp at hm
    subst hm
    obtain ⟨e1, e2⟩ := look_del hl'
    exact hi.disj r k R R' (fun e => e1 e.symm) hl e2 k' (by rw [hF]; simp) hk'
theorem opAppend_ok (hi : Inv C I β F σ w tm) {dst : Option Nat} {t t2 ty : TypeId} {u : Ty} {a z sv : SV} {σ' : St} {va vz : Value}
    (ha : SVR (hpOf w) C.L I β σ.r a va) (hz : SVR (hpOf w) C.L I β σ.r z vz) (he : opAppend C.T dst t t2 u a z σ = some (true, sv, σ')) :
    After C I (fun b => ∃ r, a.root = some r ∧ b ∈ F r) σ' w tm sv ((Builtin.append_ #[t, t2] ty #[va, vz]).run C.P w) := by
  unfold opAppend at he
  split at he
  · rename_i d e k2 hu hu2
    split at he
    · rename_i hok
      simp only [Bool.and_eq_true, Bool.not_eq_true'] at hok
      obtain ⟨⟨⟨⟨⟨⟨hk, hs⟩, hs0⟩, hf⟩, hby⟩, hzl⟩, hfree⟩ := hok
      have hk : k2 = .string ∨ ∃ e', k2 = .slice e' := by cases k2 <;> first | exact .inl rfl | exact .inr ⟨_, rfl⟩ | cases hk
      split at he
      · rename_i hshape
        split at he
        · rename_i la xs lx ys hxs hys
          simp only [Option.some.injEq, Prod.mk.injEq, decide_eq_true_eq] at he
          obtain ⟨hbytes, rfl, rfl⟩ := he
          obtain ⟨cx, rx, Sx', ex, ox⟩ := elems_ok hi ha hf hxs
          obtain ⟨cy, ry, Sy', ey, oy⟩ := elems_ok hi hz hf hys
          obtain ⟨j, f1, f2⟩ := sz_ok hs
          have hT : ∃ i, C.T e = some i ∧ bytesB C.T e = i.bytes := by
            unfold szB at hs; unfold bytesB
            split at hs
            · rename_i i hti; exact ⟨i, hti, by simp [hti]⟩
            · cases hs
          obtain ⟨i, hti, hbb⟩ := hT
          obtain ⟨hund, j2, z2, q1, q2, q3, q4, q5⟩ := C.ok e i hti
          rw [f1] at q1
          obtain rfl := Option.some.inj q1
          have hb1 : 1 ≤ j.bytes := by rw [q3, ← hbb]; exact Nat.le_of_ble_eq_true hby
          have rx' : RL (Rep (hpOf w) (Sx C.L I ((la || lx) && !u.plain)) true u) xs cx [] := RL.upP (by intro h; cases u.plain <;> simp [h]) rx
          have ry' : RL (Rep (hpOf w) (Sx C.L I ((la || lx) && !u.plain)) true u) ys cy [] := RL.upP (by intro h; cases u.plain <;> simp [h]) ry
          have hlx := RL.len (fun _ _ _ => Rep.len) rx
          have hly := RL.len (fun _ _ _ => Rep.len) ry
          have hfy : (Builtin.firstCells u.size ys.length vz).run C.P w = .ok cy.toArray w := by
            have := run_first (C := C) ey (rfl : w.heap = w.heap) ys.length (Nat.le_refl _)
            rwa [List.take_of_length_le (by rw [hly]; exact Nat.le_refl _)] at this
          have hfy' : (Builtin.firstCells u.size ys.length vz).run C.P w.drew = .ok cy.toArray w.drew := by
            have := run_first (C := C) ey (rfl : w.drew.heap = w.heap) ys.length (Nat.le_refl _)
            rwa [List.take_of_length_le (by rw [hly]; exact Nat.le_refl _)] at this
          have hfx' : (Builtin.firstCells u.size xs.length va).run C.P w.drew = .ok cx.toArray w.drew := by
            have := run_first (C := C) ex (rfl : w.drew.heap = w.heap) xs.length (Nat.le_refl _)
            rwa [List.take_of_length_le (by rw [hlx]; exact Nat.le_refl _)] at this
          have hlz := run_lenOf (C := C) (w := w) ey
          have hik : Inv C I β F (match a.root with | some r => σ.kill r | none => σ) w tm ∧ freeN (σ.b + d) (match a.root with | some r => σ.kill r | none => σ).r = true := by
            cases a.root with
            | none => exact ⟨hi, hfree⟩
            | some r => exact ⟨hi.kill r, freeN_del hfree⟩
          obtain ⟨hik, hfree'⟩ := hik
          have hshape : ∃ A c, va = .slice A xs.length c ∧ xs.length ≤ c ∧ ((xs = [] ∧ A = A ∧ c = 0) ∨ ∃ r R b o arr E fr, a.root = some r ∧ look σ.r r = some R ∧ A = some ⟨b, o, none⟩ ∧ hpOf w b = some (.cells arr E fr) ∧ o + c * u.size ≤ arr.size ∧
              cx = (arr.toList.drop o).take (xs.length * u.size) ∧ F r = [b] ∧ calmS u arr.size fr) := by
            cases hr : a.root with
            | none =>
              cases a with
              | nl =>
                simp [elems] at hxs
                obtain ⟨_, rfl⟩ := hxs
                obtain ⟨a0, ha⟩ := ha
                exact ⟨a0, 0, ha, Nat.le_refl _, .inl ⟨rfl, rfl, rfl⟩⟩
              | sf _ => simp [SV.root] at hr
              | s _ _ _ => simp [SV.root] at hr
              | _ => simp at hshape
            | some r =>
              have hR : ∃ R, look σ.r r = some R := by
                cases a with
                | sf _ => simp [SV.root] at hr; subst hr; obtain ⟨_, _, _, _, h, _⟩ := ha; exact ⟨_, h⟩
                | s _ _ _ => simp [SV.root] at hr; subst hr; obtain ⟨_, _, _, _, h, _⟩ := ha; exact ⟨_, h⟩
                | _ => simp [SV.root] at hr
              obtain ⟨R, hR⟩ := hR
              obtain ⟨A, c, e1, e2, e3⟩ := ox r hr
              refine ⟨A, c, e1, e2, ?_⟩
              rcases e3 with e3 | ⟨b, o, arr, E', fr, g1, g2, g3, g4, g5, g6⟩
              · exact .inl e3
              · exact .inr ⟨r, R, b, o, arr, E', fr, rfl, hR, g1, g2, g3, g4, g5, g6⟩
          obtain ⟨A, c, rfl, hc, hcase⟩ := hshape
          by_cases hroom : xs.length + ys.length ≤ c
          · rw [run_app_room (und_ok hu) (und_ok hu2) hk hs hlz hfy hroom]
            rcases hcase with ⟨rfl, _, rfl⟩ | ⟨r, R, b, o, arr, E', fr, hr, hR, rfl, g2, g3, g4, g5, g6⟩
            · simp at hroom
              subst hroom
              have hcy : cy = [] := by cases cy with | nil => rfl | cons _ _ => simp at hly
              subst hcy
              cases A with
              | none =>
                simp only [List.length_nil, Nat.add_zero, Sem.run_pure, Result.andThen_ok, List.append_nil]
                refine ⟨_, w, I, _, _, rfl, hik.new (σ.b + d) (.arr false ((la || lx) && !u.plain) u []) (.slice none 0 0) [] hfree' (Nat.le_refl _) rfl (fun _ _ _ => rfl) ⟨⟨none, 0, rfl, Nat.le_refl _, .inl ⟨rfl, rfl, rfl, rfl⟩⟩, by simp⟩ trivial (by simp) (by simp) (by simp), ?_, fun _ h => h, Nat.le_refl _, fun _ _ _ => rfl⟩
                exact ⟨_, _, _, _, look_cons_same, by rw [updF_same]⟩
              | some A =>
                simp only [List.length_nil, Nat.add_zero, storeCells, Sem.run_pure, Result.andThen_ok, List.append_nil]
                refine ⟨_, w, I, _, _, rfl, hik.new (σ.b + d) (.arr false ((la || lx) && !u.plain) u []) (.slice (some A) 0 0) [] hfree' (Nat.le_refl _) rfl (fun _ _ _ => rfl) ⟨⟨some A, 0, rfl, Nat.le_refl _, .inl ⟨rfl, rfl, rfl, rfl⟩⟩, by simp⟩ trivial (by simp) (by simp) (by simp), ?_, fun _ h => h, Nat.le_refl _, fun _ _ _ => rfl⟩
                exact ⟨_, _, _, _, look_cons_same, by rw [updF_same]⟩
            · simp only [addr_add, hr] at *
              obtain ⟨w', k1, k2, k4, k3⟩ := app_room (C := C) (d := σ.b + d) hi (freeN_del hfree) hR g5 g2 g6 hf g3 rx' ry' g4 hroom
              simp only [k1, Result.andThen_ok]
              exact ⟨_, w', I, _, _, rfl, k3, ⟨_, _, _, _, look_cons_same, by rw [updF_same]⟩, fun _ h => h, by omega, fun k _ hk => k4 k (by rintro rfl; exact hk ⟨r, rfl, by rw [g5]; simp⟩)⟩
          · have hfit : (xs.length + ys.length) * j.bytes ≤ 140737488355328 := by rw [q3, ← hbb]; exact hbytes
            rw [run_app_grow (und_ok hu) (und_ok hu2) hk hs f1 q4 hb1 hlz hfy' hfx' (by omega) hfit]
            have hD : w.drew.heap = w.heap := rfl
            obtain ⟨a1, a2, a3⟩ := hp_alloc (w := w.drew) (.cells (cx.toArray ++ cy.toArray ++ Builtin.zeroCells z2.cells (grownCap w (xs.length + ys.length) c e - (xs.length + ys.length))) e)
            have hzs : z2.cells.size = u.size := by
              unfold zlenB at hzl
              rw [hti] at hzl
              rw [← Array.length_toList, q5]
              exact Nat.eq_of_beq_eq_true hzl
            have hge := grownCap_ge w (xs.length + ys.length) c e
            have hsz : (cx.toArray ++ cy.toArray ++ Builtin.zeroCells z2.cells (grownCap w (xs.length + ys.length) c e - (xs.length + ys.length))).size = grownCap w (xs.length + ys.length) c e * u.size := by
              have e1 : grownCap w (xs.length + ys.length) c e * u.size = (xs.length * u.size + ys.length * u.size) + (grownCap w (xs.length + ys.length) c e - (xs.length + ys.length)) * u.size := by
                rw [← Nat.add_mul, ← Nat.add_mul]; congr 1; omega
              rw [e1, Array.size_append, Array.size_append, size_zeroCells, hzs]
              simp [hlx, hly]
            obtain ⟨b1, b2⟩ := arr_after (d := σ.b + d) (l := (la || lx) && !u.plain) (u := u) (xs := xs ++ ys) (cs := cx ++ cy) (cap := grownCap w (xs.length + ys.length) c e) hik hfree' hf (w' := w.drew.alloc (.cells (cx.toArray ++ cy.toArray ++ Builtin.zeroCells z2.cells (grownCap w (xs.length + ys.length) c e - (xs.length + ys.length))) e)) a1 a2 a3 rfl (RL.append rx' ry') (by simpa using hge) (by rw [hsz]; exact Nat.le_refl _) (.inl rfl)
              (by
                have : (cx.toArray ++ cy.toArray ++ Builtin.zeroCells z2.cells (grownCap w (xs.length + ys.length) c e - (xs.length + ys.length))).toList = (cx ++ cy) ++ (Builtin.zeroCells z2.cells (grownCap w (xs.length + ys.length) c e - (xs.length + ys.length))).toList := by simp
                rw [this, List.take_left' (by simp only [List.length_append, hlx, hly]; rw [Nat.add_mul])])
            simp only [List.length_append] at b1 b2
            refine ⟨_, _, I, _, _, rfl, b1, b2, fun _ h => h, by simp, fun k hk _ => a2 k hk⟩
        · simp at he
      · simp at he
    · simp at he
  · simp at he
end
end Go.Proofs.YthlpjdjipchdkaaDoor.E

namespace Go.Proofs.YthlpjdjipchdkaaDoor.E
open Go
set_option linter.unusedSimpArgs false
set_option linter.unusedVariables false
section
variable {C : Ctx} {I : Set'} {β : Nat → Value} {F : Nat → List Nat} {σ : St} {w : World} {tm : Array Value}
theorem run_copy {t t2 ty e : TypeId} {sz m n k : Nat} (hu : C.P.underlying t = some (.slice e)) (hs : szB C.T e sz = true) {a : Option Addr} {c : Nat} {vz : Value} {news : List Value} (hk : Nat.min m n = k)
    (hl : (Builtin.lenOf vz).run C.P w = .ok m w) (hf : (Builtin.firstCells sz k vz).run C.P w = .ok news.toArray w) :
    (Builtin.copy_ #[t, t2] ty #[.slice a n c, vz]).run C.P w = Result.andThen ((match a with | some a => storeCells a news | none => (pure () : Sem Unit)).run C.P w) fun _ w => .ok (goInt (k : Int)) w := by
  cases a with
  | none => simp [Builtin.copy_, run_underlying hu, run_size hs, hl, hk, hf]
  | some a => simp [Builtin.copy_, run_underlying hu, run_size hs, hl, hk, hf]
theorem copy_core (hi : Inv C I β F σ w tm) {t t2 ty e : TypeId} {u : Ty} {r lo n : Nat} {f l : Bool} {xs ys : List (den u)} {va vz : Value} {cy : List Value} {S : Set'} (hu : C.P.underlying t = some (.slice e)) (hs : szB C.T e u.size = true) (hf : u.flat = true)
    (hl : look σ.r r = some (.arr f l u xs)) (hn : lo + n ≤ xs.length) (hsub : subOf (β r) u.size lo n va) (hy : RL (Rep (hpOf w) (Sx C.L I l) true u) ys cy []) (he : ElR (hpOf w) S u ys cy vz) :
    ∃ w' F', (Builtin.copy_ #[t, t2] ty #[va, vz]).run C.P w = .ok (goInt ((min ys.length n : Nat) : Int)) w' ∧ Inv C I β F' { t := σ.t, c := σ.c, r := upd σ.r r (.arr f l u (xs.take lo ++ ys.take n ++ xs.drop (lo + min ys.length n))), n := σ.n, b := σ.b, k := σ.k } w' tm ∧
      w'.heap.size = w.heap.size ∧ (∀ k, k ∉ F r → hpOf w' k = hpOf w k) := by
  have hR := hi.roots r _ hl
  obtain ⟨A, c, cs, e1, e2, e3, e4⟩ := ElR.of_root hR hf
  obtain ⟨a0, m0, c0, a', c', f1, rfl, f3, f4, f5⟩ := hsub
  rw [f1] at e1
  simp only [Value.slice.injEq] at e1
  obtain ⟨rfl, rfl, rfl⟩ := e1
  have hfull := hR.2
  rw [f1] at hfull
  have hlx := RL.len (fun _ _ _ => Rep.len) e3
  have hly := RL.len (fun _ _ _ => Rep.len) hy
  have hfy := run_first (C := C) he (rfl : w.heap = w.heap) (min ys.length n) (Nat.min_le_left _ _)
  have hlz := run_lenOf (C := C) (w := w) he
  rw [run_copy hu hs (rfl : Nat.min ys.length n = min ys.length n) hlz hfy]
  have hlen : (xs.take lo ++ ys.take n ++ xs.drop (lo + min ys.length n)).length = xs.length := by simp; omega
  by_cases h0 : min ys.length n = 0
  · -- nothing is copied
    have hsame : xs.take lo ++ ys.take n ++ xs.drop (lo + min ys.length n) = xs := by
      have : ys.take n = [] := by
        rcases Nat.min_eq_zero_iff.1 h0 with h | h
        · have := List.eq_nil_of_length_eq_zero h; subst this; simp
        · subst h; simp
      rw [this, h0]; simp
    rw [hsame, h0]
    have hw : (match a' with | some a => storeCells a (cy.take (0 * u.size)) | none => (pure () : Sem Unit)).run C.P w = .ok () w := by
      cases a' with
      | none => rfl
      | some a => simp [storeCells]
    have hu2 : upd σ.r r (.arr f l u xs) = σ.r := by
      have : ∀ {ρ : List (Nat × Root)} {r : Nat} {R : Root}, look ρ r = some R → upd ρ r R = ρ := by
        intro ρ
        induction ρ with
        | nil => intro r R h; rfl
        | cons p ρ ih =>
          intro r R h
          obtain ⟨k, v⟩ := p
          simp only [look] at h
          simp only [upd]
          cases hk : Nat.beq k r with
          | true => rw [hk] at h; simp at h; rw [h]
          | false => rw [hk] at h; simp only; rw [ih h]
      exact this hl
    refine ⟨w, F, ?_, ?_, rfl, fun _ _ => rfl⟩
    · rw [hw]
      show Result.ok (goInt ((Nat.min ys.length n : Nat) : Int)) w = _
      rw [show Nat.min ys.length n = 0 from h0]
    · rw [hu2]; exact hi
  · rcases e4 with ⟨g1, _⟩ | ⟨b, o, arr, E', fr, g1, g2, g3, g4, g5, g6⟩
    · subst g1; simp at hn; omega
    · rcases f5 with ⟨_, _, f5⟩ | ⟨b', o', k, f5, f6, f7, f8⟩
      · omega
      · have hk : k = lo := by omega
        subst hk
        rw [g1] at f5
        simp only [Option.some.injEq, Addr.mk.injEq, and_true] at f5
        obtain ⟨rfl, rfl⟩ := f5
        subst f6
        have hm : min ys.length n * u.size ≤ ys.length * u.size := Nat.mul_le_mul_right _ (Nat.min_le_left _ _)
        have hcl : (cy.take (min ys.length n * u.size)).length = min ys.length n * u.size := by rw [List.length_take, hly]; omega
        have hone : ∀ v ∈ cy.take (min ys.length n * u.size), v.oneCell' = true := fun v hv => RL.one (fun _ _ _ hr => Rep.one hr) hy v (List.mem_of_mem_take hv)
        have hb1 : k * u.size + min ys.length n * u.size ≤ xs.length * u.size := by rw [← Nat.add_mul]; exact Nat.mul_le_mul_right _ (by omega)
        have hb2 : xs.length * u.size ≤ c0 * u.size := Nat.mul_le_mul_right _ e2
        obtain ⟨w', arr', k1, k2, k3, k4, k5, k6, k7⟩ := run_store_cells (C := C) (b := b) (o := o + k * u.size) (E := E') (fr := fr) _ 0 arr w g2 (calm_of g6) (by rw [hcl]; omega) hone
        have hbF : b ∈ F r := by rw [g5]; simp
        have hown := hi.own r _ hl b hbF
        refine ⟨w', updF F r (F r), ?_, ?_, k6, fun j hj => k5 j (by rintro rfl; exact hj hbF)⟩
        · simp only [k1, Result.andThen_ok]
        · refine hi.write hl (by exact ⟨rfl, hlen.symm⟩) (by omega) k7 (fun j _ hj => k5 j (by rintro rfl; exact hj hbF)) (fun _ h => h) (hi.nodup r _ hl) ⟨?_, ?_⟩ trivial
          · rw [f1, g1, g5]
            refine ⟨some ⟨b, o, none⟩, c0, by rw [hlen], by rw [hlen]; exact e2, .inr ⟨b, o, arr', E', fr, [], rfl, k2, by rw [k3]; exact g3, ?_, ?_⟩⟩
            · have hseg : List.take ((xs.take k ++ ys.take n ++ xs.drop (k + min ys.length n)).length * u.size) (List.drop o arr'.toList) = cs.take (k * u.size) ++ cy.take (min ys.length n * u.size) ++ cs.drop (k * u.size + min ys.length n * u.size) := by
                have hA : arr.toList.length = arr.size := by simp
                have := seg_in arr.toList (cy.take (min ys.length n * u.size)) o (k * u.size) (xs.length * u.size) (by rw [hcl]; exact hb1) (by rw [hA]; omega)
                rw [hcl] at this
                rw [hlen, k4, Nat.add_zero, hcl, g4]
                exact this
              rw [hseg]
              have r1 := RL.nilX (fun _ _ _ => Rep.lentX) (RL.take (fun _ _ _ => Rep.len) k e3).choose_spec.2
              have r3 := RL.nilX (fun _ _ _ => Rep.lentX) (RL.drop (fun _ _ _ => Rep.len) (k + min ys.length n) e3).choose_spec.2
              have r2 := RL.nilX (fun _ _ _ => Rep.lentX) (RL.take (fun _ _ _ => Rep.len) (min ys.length n) hy).choose_spec.2
              have ey : ys.take (min ys.length n) = ys.take n := by
                rcases Nat.le_total ys.length n with h | h
                · rw [Nat.min_eq_left h, List.take_of_length_le (Nat.le_refl _), List.take_of_length_le h]
                · rw [Nat.min_eq_right h]
              rw [ey] at r2
              rw [Nat.add_mul] at r3
              have hall := RL.append (RL.append r1 r2) r3
              exact RL.mono_mem (fun x c Y _ hY hr => by
                have : Y = [] := by cases Y with | nil => rfl | cons b Y => exact absurd (hY b (by simp)) (by simp)
                subst this
                refine rep_any hf (Rep.keep (fun j hj => ⟨hj, k5 j ?_⟩) (fun _ hj => by simp at hj) hr)
                rintro rfl
                rcases hj with hj | ⟨_, hj⟩
                · exact hown.1 hj
                · exact hown.2.1 hj) hall
            · rw [if_pos (by rfl)]
              exact ⟨rfl, by rw [k3]; exact g6⟩
          · intro hf'
            obtain ⟨a1, ha1⟩ := hfull hf'
            exact ⟨a1, by rw [hlen, f1]; exact ha1⟩
theorem sub_whole (hi : Inv C I β F σ w tm) {r : Nat} {f l : Bool} {u : Ty} {xs : List (den u)} (hl : look σ.r r = some (.arr f l u xs)) : subOf (β r) u.size 0 xs.length (β r) := by
  obtain ⟨a, c, e1, e2, e3, e4⟩ := sl_shape (hi.roots r _ hl).1
  exact sub_all e1 e2 e4 e3
theorem opCopy_ok (hi : Inv C I β F σ w tm) {t t2 ty : TypeId} {a z sv : SV} {σ' : St} {va vz : Value}
    (ha : SVR (hpOf w) C.L I β σ.r a va) (hz : SVR (hpOf w) C.L I β σ.r z vz) (he : opCopy C.T t a z σ = some (true, sv, σ')) :
    After C I (fun b => ∃ r, a.root = some r ∧ b ∈ F r) σ' w tm sv ((Builtin.copy_ #[t, t2] ty #[va, vz]).run C.P w) := by
  unfold opCopy at he
  split at he
  · rename_i e hu
    split at he
    · rename_i r hroot
      split at he
      · rename_i f l u xs hl
        split at he
        · rename_i hc
          simp only [Bool.and_eq_true, Bool.not_eq_true'] at hc
          split at he
          · rename_i lx ys hys
            split at he
            · rename_i hlen
              obtain ⟨cy, ry, S, ey, _⟩ := elems_ok hi hz hc.2 hys
              have ry' : RL (Rep (hpOf w) (Sx C.L I l) true u) ys cy [] := RL.up (by intro h; rw [h] at hlen; simpa using hlen) ry
              split at he
              · rename_i r'
                simp only [SV.root, Option.some.injEq] at hroot
                subst hroot
                simp only [Option.some.injEq, Prod.mk.injEq, true_and] at he
                obtain ⟨rfl, rfl⟩ := he
                obtain ⟨f', l', u', xs', h1, rfl⟩ := ha
                obtain ⟨w', F', g1, g2, g3, g4⟩ := copy_core (t2 := t2) (ty := ty) hi (und_ok hu) hc.1.1 hc.2 hl (lo := 0) (n := xs.length) (by omega) (sub_whole hi hl) ry' ey
                simp only [List.take_zero, List.nil_append, Nat.zero_add] at g2
                exact ⟨_, w', I, β, F', g1, g2, svr_int, fun _ h => h, by omega, fun k _ hk => g4 k (fun h => hk ⟨_, rfl, h⟩)⟩
              · rename_i r' lo n
                simp only [SV.root, Option.some.injEq] at hroot
                subst hroot
                simp only [Option.some.injEq, Prod.mk.injEq, true_and] at he
                obtain ⟨rfl, rfl⟩ := he
                obtain ⟨f', l', u', xs', h1, h2, h3⟩ := ha
                rw [hl] at h1
                simp only [Option.some.injEq, Root.arr.injEq] at h1
                obtain ⟨rfl, rfl, rfl, h1⟩ := h1
                have := eq_of_heq h1
                subst this
                obtain ⟨w', F', g1, g2, g3, g4⟩ := copy_core (t2 := t2) (ty := ty) hi (und_ok hu) hc.1.1 hc.2 hl h2 h3 ry' ey
                exact ⟨_, w', I, β, F', g1, g2, svr_int, fun _ h => h, by omega, fun k _ hk => g4 k (fun h => hk ⟨_, rfl, h⟩)⟩
              · simp at he
            · simp at he
          · simp at he
        · simp at he
      · simp at he
    · simp at he
  · simp at he
end
end Go.Proofs.YthlpjdjipchdkaaDoor.E

namespace Go.Proofs.YthlpjdjipchdkaaDoor.E
open Go
set_option linter.unusedSimpArgs false
set_option linter.unusedVariables false
section
variable {C : Ctx} {I : Set'} {β : Nat → Value} {F : Nat → List Nat} {σ : St} {w : World} {tm : Array Value}
theorem rl_u8 {h : Hp} {S : Set'} : ∀ {xs : List Int} {cs : List Value}, RL (Rep h S true (.int .u8)) xs cs [] → cs = xs.map (Value.int .u8)
  | [], _, ⟨h, _⟩ => h
  | x :: xs, _, ⟨c1, c2, X1, X2, h1, h2, h3, h4⟩ => by
    obtain ⟨rfl, _⟩ := h3
    have hX : X2 = [] := by
      have := List.append_eq_nil_iff.1 h2.symm
      exact this.2
    subst hX
    rw [h1, rl_u8 h4]; rfl
theorem conv_int {s t : TypeId} {d : TypeDesc} {k j : IntKind} {n : Int} (hs : C.P.underlying s = some d) (ht : C.P.underlying t = some (.int k)) :
    (convert s t (.int j n)).run C.P w = .ok (.int k (k.wrap n)) w := by
  cases d <;> simp [convert, run_underlying hs, run_underlying ht, Conv.intToInt]
theorem conv_str {s t : TypeId} {d : TypeDesc} {b : ByteArray} (hs : C.P.underlying s = some d) (ht : C.P.underlying t = some .string) :
    (convert s t (.string b)).run C.P w = .ok (.string b) w := by
  cases d <;> simp [convert, run_underlying hs, run_underlying ht]
theorem upd_self : ∀ {ρ : List (Nat × Root)} {r : Nat} {R : Root}, look ρ r = some R → upd ρ r R = ρ
  | [], _, _, h => by simp [look] at h
  | (k, a) :: l, r, R, h => by
    simp only [look] at h
    simp only [upd]
    cases hb : Nat.beq k r with
    | true =>
      rw [hb] at h
      simp only [Option.some.injEq] at h
      subst h
      obtain rfl := Nat.eq_of_beq_eq_true hb
      rfl
    | false =>
      rw [hb] at h
      simp only
      rw [upd_self h]
theorem hp_freeze {b k : Nat} {arr : Array Value} {E' : TypeId} {fr : Nat × Nat} (hb : hpOf w b = some (.cells arr E' fr)) (hc : calm arr.size fr) (hk : arr.size ≤ k) :
    ∃ fr', calm arr.size fr' ∧ hpOf (w.freeze ⟨b, k, none⟩ 1) b = some (.cells arr E' fr') ∧ (∀ j, j ≠ b → hpOf (w.freeze ⟨b, k, none⟩ 1) j = hpOf w j) ∧ (w.freeze ⟨b, k, none⟩ 1).heap.size = w.heap.size ∧ restOf (w.freeze ⟨b, k, none⟩ 1) = restOf w := by
  obtain ⟨lo, hi'⟩ := fr
  refine ⟨if lo == hi' then (k, k + 1) else (min lo k, max hi' (k + 1)), ?_, ?_, ?_, ?_, ?_⟩
  · by_cases h : (lo == hi') = true
    · rw [if_pos h]; exact .inr hk
    · rw [if_neg h]
      rcases hc with hc | hc
      · simp only [Prod.mk.injEq] at hc; simp [hc.1, hc.2] at h
      · refine .inr ?_
        show arr.size ≤ min lo k
        have : arr.size ≤ lo := hc
        omega
  · simp only [hpOf, World.freeze] at hb ⊢
    rw [if_neg (by decide)]
    simp only [Array.getElem?_modify]
    simp [hb]
  · intro j hj
    simp only [hpOf, World.freeze]
    rw [if_neg (by decide)]
    simp only [Array.getElem?_modify]
    rw [if_neg (fun h => hj h.symm)]
  · simp only [World.freeze]
    rw [if_neg (by decide)]
    simp
  · simp only [World.freeze, restOf]
    rw [if_neg (by decide)]
theorem opMark_ok (hi : Inv C I β F σ w tm) {s e : TypeId} {r : Nat} {l : Bool} {u : Ty} {x : den u} {xs : List (den u)} {va : Value} (hus : und C.T s = some (.slice e)) (hue : und C.T e = some (.int .u8))
    (ha : SVR (hpOf w) C.L I β σ.r (.sf r) va) {f : Bool} (hu8 : u8T u = true) (hr : look σ.r r = some (.arr f l u (x :: xs))) : After C I (fun b => b ∈ F r) σ w tm (.sf r) ((convert s s va).run C.P w) := by
  have hR := hi.roots r _ hr
  obtain ⟨f', l', u', xs', h1, rfl⟩ := ha
  obtain ⟨⟨a, c, e1, e2, e3⟩, hfull⟩ := hR
  simp only [List.cons.injEq, and_true] at e1
  rcases e3 with ⟨g1, _⟩ | ⟨b, o, arr, E', fr, X', rfl, g2, g3, g4, g5⟩
  · cases g1
  · simp only [Bool.not_false, Bool.and_true, if_true] at g5
    obtain ⟨fr', k1, k2, k3, k4, k5⟩ := hp_freeze g2 (calm_of g5.2) (Nat.le_refl arr.size)
    have hsh : w.shape? b = some (E', arr.size) := by
      have : w.heap[b]? = some (.cells arr E' fr) := g2
      unfold World.shape?; rw [this]
    have hrun : (convert s s (β r)).run C.P w = .ok (β r) (w.freeze ⟨b, arr.size, none⟩ 1) := by
      rw [e1]
      simp [convert, run_underlying (und_ok hus), run_underlying (und_ok hue), markStringish, hsh]
    rw [hrun]
    have hF : b ∈ F r := by rw [g5.1]; simp
    refine ⟨β r, _, I, β, updF F r (F r), rfl, ?_, ⟨f', l', u', xs', h1, rfl⟩, fun _ h => h, by rw [k4]; exact Nat.le_refl _, fun k _ hk => k3 k (by rintro rfl; exact hk hF)⟩
    have hi2 := hi.write (w' := w.freeze ⟨b, arr.size, none⟩ 1) hr (Root.like.refl _) (by omega) k5 (fun j _ hj => k3 j (by rintro rfl; exact hj hF)) (fun _ h => h) (hi.nodup r _ hr) (R' := .arr f l u (x :: xs)) ⟨?_, hfull⟩ trivial
    · have : upd σ.r r (.arr f l u (x :: xs)) = σ.r := upd_self hr
      rw [this] at hi2
      exact hi2
    · refine ⟨some ⟨b, o, none⟩, c, by rw [e1], e2, .inr ⟨b, o, arr, E', fr', X', rfl, k2, g3, ?_, ?_⟩⟩
      · refine RL.mono_mem (fun y cs Y _ hY hq => Rep.keep (fun j hj => ⟨hj, k3 j ?_⟩) (fun j hj => k3 j ?_) hq) g4
        · rintro rfl
          rcases hj with hj | ⟨_, hj⟩
          · exact (hi.own r _ hr j hF).1 hj
          · exact (hi.own r _ hr j hF).2.1 hj
        · rintro rfl
          have hn := hi.nodup r _ hr
          rw [g5.1] at hn
          exact (List.nodup_cons.1 hn).1 (hY j hj)
      · simp only [Bool.not_false, Bool.and_true, if_true]
        exact ⟨g5.1, calmS_of hu8 k1⟩
theorem opConv_ok (hi : Inv C I β F σ w tm) {dst : Option Nat} {s t : TypeId} {a sv : SV} {σ' : St} {va : Value}
    (ha : SVR (hpOf w) C.L I β σ.r a va) (he : opConv C.T dst s t a σ = some (true, sv, σ')) :
    After C I (fun b => ∃ r, a = .sf r ∧ b ∈ F r) σ' w tm sv ((convert s t va).run C.P w) := by
  unfold opConv at he
  split at he
  · rename_i ds k hus hut
    split at he
    · rename_i l j n
      simp only [Option.some.injEq, Prod.mk.injEq, true_and] at he
      obtain ⟨rfl, rfl⟩ := he
      obtain rfl := of_int (k := j) (n := n) ha
      rw [conv_int (und_ok hus) (und_ok hut)]
      exact hi.after svr_int
    · simp at he
  · rename_i hus hut
    split at he
    · rename_i l x
      simp only [Option.some.injEq, Prod.mk.injEq, true_and] at he
      obtain ⟨rfl, rfl⟩ := he
      obtain rfl := of_str ha
      rw [conv_str (und_ok hus) (und_ok hut)]
      exact hi.after svr_str
    · simp at he
  · rename_i e hus hut
    split at he
    · rename_i l x d hue
      split at he
      rotate_left
      · simp at he
      rename_i hfree
      simp only [Option.some.injEq, Prod.mk.injEq, true_and] at he
      obtain ⟨rfl, rfl⟩ := he
      obtain rfl := of_str ha
      rw [Lib.run_convert_string_bytes w s t e _ (und_ok hus) (und_ok hut) (und_ok hue)]
      have hsz : (⟨⟨x⟩⟩ : ByteArray).size = x.length := rfl
      have hge := grownCap_ge w x.length 0 e
      have hbs : (Lib.bytesCells w e ⟨⟨x⟩⟩).size = grownCap w x.length 0 e := by
        simp only [Lib.bytesCells, hsz]
        simp
        omega
      obtain ⟨b1, b2⟩ := arr_after (w' := Lib.bytesWorld w e ⟨⟨x⟩⟩) (d := σ.b + d) (l := false) (u := .int .u8) (xs := x.map fun c => (c.toNat : Int)) (cs := x.map fun c => Value.int .u8 (c.toNat : Int)) (cap := grownCap w x.length 0 e) hi hfree rfl
        (Lib.bytesWorld_at_new w e ⟨⟨x⟩⟩) (fun k hk => Lib.bytesWorld_at_old w e ⟨⟨x⟩⟩ k hk) (Lib.bytesWorld_size w e ⟨⟨x⟩⟩) rfl (rep_str_bytes x) (by simpa using hge) (by rw [hbs]; simp [Ty.size]) (.inr ⟨rfl, Nat.le_refl _⟩)
        (by
          have h1 : (Lib.bytesCells w e ⟨⟨x⟩⟩).toList = (x.map fun c => Value.int .u8 (c.toNat : Int)) ++ (Array.replicate (grownCap w x.length 0 e - x.length) (Value.int .u8 0)).toList := by
            simp [Lib.bytesCells, hsz]
          rw [h1, List.take_left' (by simp [Ty.size])])
      simp only [List.length_map] at b1 b2
      refine ⟨_, _, I, _, _, rfl, b1, b2, fun _ h => h, ?_, fun k hk _ => Lib.bytesWorld_at_old w e ⟨⟨x⟩⟩ k hk⟩
      rw [Lib.bytesWorld_size]; omega
    · simp at he
  · rename_i e hus hut
    split at he
    · rename_i hue
      cases hel : elems σ (.int .u8) a with
      | none => simp [hel] at he
      | some q =>
        obtain ⟨l, xs⟩ := q
        simp only [hel, Option.some.injEq, Prod.mk.injEq, true_and] at he
        obtain ⟨rfl, rfl⟩ := he
        obtain ⟨cs, rx, S', ex, _⟩ := elems_ok hi ha rfl hel
        have hcs := rl_u8 rx
        have hres : SVR (hpOf w) C.L I β σ.r (.v false .str (xs.map fun n => UInt8.ofNat n.toNat)) (.string (strOfNums xs)) := svr_str
        rcases ex.2 with ⟨s', rfl, _, hl, hc⟩ | ⟨A, c, rfl, hc, ⟨h0, _, rfl⟩ | ⟨b, o, arr, E', fr, rfl, hb, ho, hc2⟩⟩
        · rw [conv_str (und_ok hus) (und_ok hut)]
          rw [hcs] at hc
          have hxs : xs = s'.map fun c => (c.toNat : Int) := by
            have hinj : ∀ (a : List Int) (b : List UInt8), a.map (Value.int .u8) = b.map (fun c => Value.int .u8 (c.toNat : Int)) → a = b.map fun c => (c.toNat : Int) := by
              intro a
              induction a with
              | nil => intro b h; cases b with | nil => rfl | cons => simp at h
              | cons x a ih => intro b h; cases b with
                | nil => simp at h
                | cons y b => simp at h ⊢; exact ⟨h.1, by have := ih b (by simpa using h.2); simpa using this⟩
            exact hinj xs s' hc
          have hback : (xs.map fun n => UInt8.ofNat n.toNat) = s' := by
            rw [hxs, List.map_map]
            conv => rhs; rw [← List.map_id s']
            apply List.map_congr_left
            intro c _
            simp
          rw [hback]
          exact hi.after svr_str
        · subst h0
          simp only [List.length_nil]
          cases A with
          | none =>
            rw [run_convert_bytes_nil w s e (und_ok hus) (und_ok hue) 0 0 t (und_ok hut)]
            exact hi.after hres
          | some A =>
            rw [run_convert_bytes_string w s t e _ 0 0 (und_ok hus) (und_ok hue) (und_ok hut), run_bytesToString w _ 0 0 [] (by rfl), foldl_push_bytes]
            exact hi.after hres
        · rw [run_convert_bytes_arg w s e (und_ok hus) (und_ok hue) b o xs.length c xs rfl ?_ t (und_ok hut)]
          · exact hi.after hres
          · intro i hlt
            rw [cell_at hb]
            have hx : cs[i]? = some (.int .u8 (xs.getD i 0)) := by
              rw [hcs]; simp [List.getD, hlt]
            rw [hc2, List.getElem?_take] at hx
            split at hx
            · rw [List.getElem?_drop] at hx; simpa using hx
            · cases hx
    · simp at he
  · rename_i e e2 hus hut
    split at he
    · rename_i r hst hue
      obtain rfl := Nat.eq_of_beq_eq_true hst
      split at he
      · rename_i f l u x xs hr
        split at he
        · rename_i hu8
          simp only [Option.some.injEq, Prod.mk.injEq, true_and] at he
          obtain ⟨rfl, rfl⟩ := he
          obtain ⟨v, w', I', β', F', q1, q2, q3, q4, q5, q6⟩ := opMark_ok hi hus hue ha hu8 hr
          exact ⟨v, w', I', β', F', q1, q2, q3, q4, q5, fun k hk hn => q6 k hk (fun h => hn ⟨_, rfl, h⟩)⟩
        · cases he
      · cases he
    · cases he
  · simp at he
theorem opPick_ok (hi : Inv C I β F σ w tm) {c a b sv : SV} {σ' : St} {vc va vb : Value}
    (hc : SVR (hpOf w) C.L I β σ.r c vc) (ha : vc = .bool true → SVR (hpOf w) C.L I β σ.r a va) (hb : vc = .bool false → SVR (hpOf w) C.L I β σ.r b vb) (he : opPick c a b σ = some (true, sv, σ')) :
    ∃ g, vc = .bool g ∧ σ' = σ ∧ SVR (hpOf w) C.L I β σ.r sv (if g then va else vb) := by
  unfold opPick at he
  split at he
  · rename_i l g l1 x l2 y
    simp only [Option.some.injEq, Prod.mk.injEq, true_and] at he
    obtain ⟨rfl, rfl⟩ := he
    have hg := of_bool (b := g) hc
    refine ⟨g, hg, rfl, ?_⟩
    cases g with
    | true => obtain rfl := of_bool (b := x) (ha hg); exact svr_bool
    | false => obtain rfl := of_bool (b := y) (hb hg); exact svr_bool
  · rename_i l g _
    have hg := of_bool (b := g) hc
    cases g with
    | true =>
      simp only [Option.some.injEq, Prod.mk.injEq, true_and] at he
      obtain ⟨rfl, rfl⟩ := he
      exact ⟨true, hg, rfl, ha hg⟩
    | false =>
      simp only [Option.some.injEq, Prod.mk.injEq, true_and] at he
      obtain ⟨rfl, rfl⟩ := he
      exact ⟨false, hg, rfl, hb hg⟩
  · simp at he
theorem maxL_ok : ∀ {l : List SV} {vs : List Value} {a n : Int} {k : IntKind}, maxL a l k = some n → All2 (SVR (hpOf w) C.L I β σ.r) l vs → (vs.foldlM Builtin.max2 (.int k a)).run C.P w = .ok (.int k n) w
  | [], [], a, n, k, h, _ => by simp [maxL] at h; subst h; simp
  | [], _ :: _, _, _, _, _, h => h.elim
  | sv :: l, [], _, _, _, _, h => h.elim
  | sv :: l, v :: vs, a, n, k, h, ⟨h1, h2⟩ => by
    cases sv with
    | v q t b =>
      cases t with
      | int j =>
        simp only [maxL] at h
        cases hk : kindEq j k with
        | false => simp [hk] at h
        | true =>
          simp only [hk] at h
          obtain rfl := kindEq_iff hk
          obtain rfl := of_int (k := j) (n := b) h1
          have ih := maxL_ok h h2
          simp only [List.foldlM_cons, Sem.run_bind, Builtin.max2, Sem.run_pure, Result.andThen_ok]
          exact ih
      | _ => simp [maxL] at h
    | _ => simp [maxL] at h
theorem minL_ok : ∀ {l : List SV} {vs : List Value} {a n : Int} {k : IntKind}, minL a l k = some n → All2 (SVR (hpOf w) C.L I β σ.r) l vs → (vs.foldlM Builtin.min2 (.int k a)).run C.P w = .ok (.int k n) w
  | [], [], a, n, k, h, _ => by simp [minL] at h; subst h; simp
  | [], _ :: _, _, _, _, _, h => h.elim
  | sv :: l, [], _, _, _, _, h => h.elim
  | sv :: l, v :: vs, a, n, k, h, ⟨h1, h2⟩ => by
    cases sv with
    | v q t b =>
      cases t with
      | int j =>
        simp only [minL] at h
        cases hk : kindEq j k with
        | false => simp [hk] at h
        | true =>
          simp only [hk] at h
          obtain rfl := kindEq_iff hk
          obtain rfl := of_int (k := j) (n := b) h1
          have ih := minL_ok h h2
          simp only [List.foldlM_cons, Sem.run_bind, Builtin.min2, Sem.run_pure, Result.andThen_ok]
          exact ih
      | _ => simp [minL] at h
    | _ => simp [minL] at h
end
end Go.Proofs.YthlpjdjipchdkaaDoor.E

namespace Go.Proofs.YthlpjdjipchdkaaDoor.E
open Go
set_option linter.unusedSimpArgs false
set_option linter.unusedVariables false
def AfterN (C : Ctx) (I T : Set') (σ' : St) (w : World) (tm : Array Value) (sv : SV) (res : Result Next) : Prop :=
  ∃ nx v w' I' β' F', res = .ok nx w' ∧ (nx = .value v ∨ (nx = .skip ∧ v = undef)) ∧ Inv C I' β' F' σ' w' tm ∧ SVR (hpOf w') C.L I' β' σ'.r sv v ∧ (∀ b, I b → I' b) ∧ w.heap.size ≤ w'.heap.size ∧ (∀ b, b < w.heap.size → ¬ T b → hpOf w' b = hpOf w b)
def TS (G : Glob) (g : Option (Nat × Bool)) (F : Nat → List Nat) (σ : St) (o : Oper) : Set' :=
  match o.op with
  | .store _ a _ => fun b => ∃ r s, σ.arg G g a = .p r s ∧ b ∈ F r
  | .convert _ _ x => fun b => ∃ r, σ.arg G g x = .sf r ∧ b ∈ F r
  | .call c => match c.callee, c.args.toList with
    | .builtin .append, x :: _ => fun b => ∃ r, (σ.arg G g x).root = some r ∧ b ∈ F r
    | .builtin .copy, x :: _ => fun b => ∃ r, (σ.arg G g x).root = some r ∧ b ∈ F r
    | _, _ => fun _ => False
  | _ => fun _ => False
section
variable {C : Ctx} {I : Set'} {β : Nat → Value} {F : Nat → List Nat} {σ : St} {w : World} {tm : Array Value}
theorem isZero_some {tm : Array Value} {x : Option Operand} (h : isZero x = true) : ∃ k, x.map (evT tm) = some (.int k 0) := by
  unfold isZero at h
  split at h
  · rename_i k; exact ⟨k, rfl⟩
  · cases h
theorem both_some {R : Type} {A B : Option R} {r : R} (h : both A B = some r) : A = some r ∧ B = some r := by
  unfold both at h
  split at h
  · rename_i he; exact ⟨h, by rw [← he]; exact h⟩
  · cases h
theorem bthN_some {R : Type} {n : Nat} {A B : Option R} {r : R} (h : bthN n A B = some r) : (n = 0 → A = some r) ∧ B = some r := by
  unfold bthN at h
  split at h
  · exact ⟨fun _ => (both_some h).1, (both_some h).2⟩
  · exact ⟨fun hz => absurd hz (by simp), h⟩
theorem equal_sl_nil {t e : TypeId} (hu : C.P.underlying t = some (.slice e)) (a : Option Addr) (n c : Nat) : (Op.equal t (.slice a n c) (.slice none 0 0)).run C.P w = .ok a.isNone w := by
  unfold Op.equal Op.maxDepth
  rw [show (10000 : Nat) = 9999 + 1 from rfl, Op.equalIn]
  cases a <;> simp [Sem.run_bind, run_underlying hu w]
theorem eqGuard_sl (op : BinOp) (t : TypeId) (x y : Operand) (a : Option Addr) (n c : Nat) : (eqGuard op t x y (.slice a n c) (.slice none 0 0)).run C.P w = .ok () w := by
  unfold eqGuard; split <;> simp
theorem nilV {R : Type} (hi : Inv C I β F σ w tm) {sv : SV} {v : Value} (hs : SVR (hpOf w) C.L I β σ.r sv v) {A B : Option R} {res : R} (he : nilK σ sv A B = some res) :
    ∃ a n c, v = .slice a n c ∧ (a = none → A = some res) ∧ B = some res := by
  unfold nilK at he
  split at he
  · rename_i l o t xs
    obtain ⟨cs, hr, hv, _⟩ := hs
    obtain ⟨c1, rfl⟩ : ∃ c, cs = [c] := List.length_eq_one_iff.1 hr.len
    obtain rfl : v = c1 := hv
    obtain ⟨a, c, rfl, e2, e3, e4⟩ := sl_shape hr
    obtain ⟨h1, h2⟩ := bthN_some he
    exact ⟨a, _, c, rfl, fun h => h1 (by have := e4 h; omega), h2⟩
  · obtain ⟨a, rfl⟩ : ∃ a, v = .slice a 0 0 := hs
    exact ⟨a, 0, 0, rfl, fun _ => (both_some he).1, (both_some he).2⟩
  · rename_i r
    obtain ⟨f, l, t, xs, h1, rfl⟩ := hs
    rw [h1] at he
    simp only at he
    obtain ⟨a, c, e1, e2, e3, e4⟩ := sl_shape (hi.roots r _ h1).1
    obtain ⟨g1, g2⟩ := bthN_some he
    exact ⟨a, _, c, e1, fun h => g1 (by have := e4 h; omega), g2⟩
  · rename_i r lo n
    obtain ⟨f, l, t, xs, h1, h2, a0, m0, c0, a', c', f1, rfl, f3, f4, f5⟩ := hs
    obtain ⟨g1, g2⟩ := bthN_some he
    refine ⟨a', n, c', rfl, fun h => g1 ?_, g2⟩
    rcases f5 with ⟨_, _, f5⟩ | ⟨bb, oo, kk, _, f5, _⟩
    · omega
    · rw [h] at f5; cases f5
  · cases he
theorem After.v {T : Set'} {σ' : St} {sv : SV} {s : Sem Value} (h : After C I T σ' w tm sv (s.run C.P w)) : AfterN C I T σ' w tm sv ((do pure (.value (← s)) : Sem Next).run C.P w) := by
  obtain ⟨v, w', I', β', F', h1, h2, h3, h4, h5⟩ := h
  exact ⟨.value v, v, w', I', β', F', by simp only [Sem.run_bind, h1, Result.andThen_ok, Sem.run_pure], .inl rfl, h2, h3, h4, h5⟩
theorem AfterN.val (hi : Inv C I β F σ w tm) {T : Set'} {sv : SV} {v : Value} (hs : SVR (hpOf w) C.L I β σ.r sv v) : AfterN C I T σ w tm sv (.ok (.value v) w) :=
  ⟨_, v, w, I, β, F, rfl, .inl rfl, hi, hs, fun _ h => h, Nat.le_refl _, fun _ _ _ => rfl⟩
theorem optR_map (hi : Inv C I β F σ w tm) {g : Option (Nat × Bool)} (hg : Gok tm g) (x : Option Operand) : OptR (hpOf w) C.L I β σ.r (x.map (σ.arg C.G g)) (x.map (evT tm)) := by
  cases x with
  | none => trivial
  | some x => exact arg_ok hi hg x
theorem args_all (hi : Inv C I β F σ w tm) {g : Option (Nat × Bool)} (hg : Gok tm g) : ∀ xs : List Operand, All2 (SVR (hpOf w) C.L I β σ.r) (xs.map (σ.arg C.G g)) (xs.map (evT tm))
  | [] => trivial
  | x :: xs => ⟨arg_ok hi hg x, args_all hi hg xs⟩
theorem exec_builtin {o : Oper} {c : Call} {b : Builtin} (ho : o.op = .call c) (hc : c.callee = .builtin b) (w : World) :
    ∃ k, (execOp (evT tm) o).run C.P w = (builtin b c.argTypes o.type k (c.args.map (evT tm))).run C.P w := by
  refine ⟨c.args.map fun | .const _ => true | _ => false, ?_⟩
  unfold execOp
  simp only [ho, resolve, hc, Sem.run_bind, Sem.run_pure, Result.andThen_ok, invoke]
  rfl
theorem map_toList {α β : Type} {f : α → β} {a : Array α} {l : List α} (h : a.toList = l) : a.map f = (l.map f).toArray := by
  subst h
  apply Array.toList_inj.1
  simp
theorem SVR.low {h : Hp} {L : Set'} {ρ : List (Nat × Root)} {sv : SV} {v : Value} (hs : SVR h L I β ρ sv v) : SVR0 h L I β ρ sv.low v := by
  cases sv <;> first | exact hs | trivial
theorem lows {h : Hp} {L : Set'} {ρ : List (Nat × Root)} : ∀ {l : List SV} {vs : List Value}, All2 (SVR h L I β ρ) l vs → All2 (SVR0 h L I β ρ) (l.map SV.low) vs
  | [], [], _ => trivial
  | [], _ :: _, h => h.elim
  | _ :: _, [], h => h.elim
  | _ :: _, _ :: _, ⟨h1, h2⟩ => ⟨h1.low, lows h2⟩
theorem opStore_p {P : Tab} {t : TypeId} {a v : SV} {r : Bool × SV × St} (h : opStore P t a v σ = some r) : ∃ k s, a = .p k s := by
  cases a with
  | p k s => exact ⟨k, s, rfl⟩
  | _ => simp [opStore] at h
theorem opMap_ok (hi : Inv C I β F σ w tm) {dst : Option Nat} {t : TypeId} {τ : Ty} {sv : SV} {σ' : St} (he : opMap dst τ σ = some (true, sv, σ')) :
    After C I (fun _ => False) σ' w tm sv ((Instr.makeMap t none).run C.P w) := by
  unfold opMap at he
  split at he
  · rename_i d ow k v
    split at he
    · rename_i hfree
      simp only [Option.some.injEq, Prod.mk.injEq, true_and] at he
      obtain ⟨rfl, rfl⟩ := he
      have hrun : (Instr.makeMap t none).run C.P w = .ok (.map (some w.heap.size)) (w.alloc (.map #[] 0)) := by simp [Instr.makeMap]
      rw [hrun]
      obtain ⟨h1, h2, h3⟩ := hp_alloc (w := w) (.map #[] 0)
      refine ⟨_, _, I, updF β (σ.b + d) (.map (some w.heap.size)), updF F (σ.b + d) [w.heap.size], rfl, ?_, ⟨false, k, v, [], none, look_cons_same, by rw [updF_same]⟩, fun _ h => h, by omega, fun b hb _ => h2 b hb⟩
      refine hi.new (σ.b + d) (.map false k v [] none) _ [w.heap.size] hfree (by omega) rfl (fun b hb _ => h2 b hb) ⟨w.heap.size, #[], 0, [], rfl, h1, ⟨by simp, by simp⟩, ⟨rfl, rfl⟩, rfl⟩ trivial (by simp) ?_ ?_
      · intro b hb
        simp at hb
        subst hb
        have hg := hi.grow
        refine ⟨fun h => ?_, fun h => ?_, by omega, .inr hg⟩
        · have := (hi.shared _ h).1; omega
        · have := (C.Lok _ h).1; omega
      · intro k' R' hne hl b hb hm
        simp at hm
        subst hm
        have := (hi.own k' R' hl _ hb).2.2.1
        omega
    · simp at he
  · simp at he
theorem AfterN.weak {T T' : Set'} {σ' : St} {sv : SV} {res : Result Next} (h : AfterN C I T σ' w tm sv res) (ht : ∀ b, T b → T' b) : AfterN C I T' σ' w tm sv res := by
  obtain ⟨nx, v, w', I', β', F', k1, k2, k3, k4, k5, k6, k7⟩ := h
  exact ⟨nx, v, w', I', β', F', k1, k2, k3, k4, k5, k6, fun b hb hn => k7 b hb (fun h => hn (ht b h))⟩
theorem opD_ok (hi : Inv C I β F σ w tm) {g : Option (Nat × Bool)} (hg : Gok tm g) {E' : Env} (hT : E'.T = C.T) (hG : E'.G = C.G) {f : FuncId} {o : Oper} {sv : SV} {σ' : St} (he : opD E' f g o σ = some (true, sv, σ')) :
    AfterN C I (TS C.G g F σ o) σ' w tm sv ((execOp (evT tm) o).run C.P w) := by
  unfold opD at he
  simp only [hT, hG] at he
  cases ho : o.op with
  | move x =>
    simp only [ho, Option.some.injEq, Prod.mk.injEq, true_and] at he
    obtain ⟨rfl, rfl⟩ := he
    unfold execOp; simp only [ho]
    exact .val hi (arg_ok hi hg x)
  | assign x =>
    simp only [ho, Option.some.injEq, Prod.mk.injEq, true_and] at he
    obtain ⟨rfl, rfl⟩ := he
    unfold execOp; simp only [ho]
    exact .val hi (arg_ok hi hg x)
  | pick c a b =>
    simp only [ho] at he
    have key : ∀ {a' b' : SV}, (evT tm c = .bool true → SVR (hpOf w) C.L I β σ.r a' (evT tm a)) → (evT tm c = .bool false → SVR (hpOf w) C.L I β σ.r b' (evT tm b)) → opPick (σ.arg C.G g c) a' b' σ = some (true, sv, σ') →
        AfterN C I (TS C.G g F σ o) σ' w tm sv ((execOp (evT tm) o).run C.P w) := by
      intro a' b' ha hb hp
      obtain ⟨u, h1, rfl, h2⟩ := opPick_ok hi (arg_ok hi hg c) ha hb hp
      refine ⟨_, _, w, I, β, F, ?_, .inl rfl, hi, h2, fun _ h => h, Nat.le_refl _, fun _ _ _ => rfl⟩
      unfold execOp
      cases u <;> simp [ho, h1, asBool]
    cases c with
    | tmp d =>
      simp only at he
      refine key (fun h => ?_) (fun h => ?_) he
      · split
        · exact arg_ok hi (fun d' u' hq => by simp only [Option.some.injEq, Prod.mk.injEq] at hq; obtain ⟨rfl, rfl⟩ := hq; exact h) a
        · exact arg_ok hi hg a
      · split
        · exact arg_ok hi (fun d' u' hq => by simp only [Option.some.injEq, Prod.mk.injEq] at hq; obtain ⟨rfl, rfl⟩ := hq; exact h) b
        · exact arg_ok hi hg b
    | _ => exact key (fun _ => arg_ok hi hg a) (fun _ => arg_ok hi hg b) he
  | alloc t =>
    simp only [ho] at he
    split at he
    · unfold execOp; simp only [ho]
      exact (opAlloc_ok hi he).v.weak (fun _ h => h.elim)
    · simp at he
  | box t x =>
    simp only [ho] at he
    split at he
    · unfold execOp; simp only [ho]
      exact (opBox_ok hi (arg_ok hi hg x) he).v.weak (fun _ h => h.elim)
    · simp at he
  | build t ps =>
    simp only [ho] at he
    split at he
    · unfold execOp; simp only [ho]
      have := opBuild_ok hi hg he
      have hp : ps.map (fun p => (p.1, evT tm p.2)) = (ps.toList.map fun p => (p.1, evT tm p.2)).toArray := map_toList rfl
      rw [← hp] at this
      exact this.v.weak (fun _ h => h.elim)
    · simp at he
  | buildSlice t n ps =>
    simp only [ho] at he
    split at he
    · split at he
      · unfold execOp; simp only [ho]
        have hp : ps.map (fun p => (p.1, evT tm p.2)) = (ps.toList.map fun p => (p.1, evT tm p.2)).toArray := map_toList rfl
        cases hsl : sharedL C.G g σ ps.toList with
        | mk qs σ1 =>
          rw [hsl] at he
          simp only at he
          obtain ⟨I1, hi1, hI1, ha⟩ := sharedL_ok hg ps.toList hi hsl
          have := opMkSl_ok hi1 ha he
          rw [← hp] at this
          obtain ⟨nx, v, w', I', β', F', k1, k2, k3, k4, k5, k6, k7⟩ := this.v
          exact ⟨nx, v, w', I', β', F', k1, k2, k3, k4, fun b hb => k5 b (hI1.sub b hb), k6, fun b hb _ => k7 b hb (fun h => h)⟩
      · simp at he
    · simp at he
  | load t a =>
    simp only [ho] at he
    unfold execOp; simp only [ho]
    exact ((opLoad_ok hi (arg_ok hi hg a) he).a (T := fun _ => False) hi).v.weak (fun _ h => h.elim)
  | store t a v =>
    simp only [ho] at he
    unfold execOp; simp only [ho]
    obtain ⟨r, s, hp⟩ := opStore_p he
    obtain ⟨w', I', F', h1, h2, rfl, h4, h5, h6⟩ := opStore_ok hi (arg_ok hi hg a) (arg_ok hi hg v) he
    refine ⟨.skip, undef, w', I', β, F', by simp only [Sem.run_bind, h1, Result.andThen_ok, Sem.run_pure], .inr ⟨rfl, rfl⟩, h2, trivial, h4, h5, fun b hb hn => h6 r s hp b (fun h => hn ?_)⟩
    simp only [TS, ho]
    exact ⟨r, s, hp, h⟩
  | nilCheck x =>
    simp only [ho] at he
    obtain ⟨v, h1, rfl, h3⟩ := opNil_ok (ρ := evT tm) hi ho (arg_ok hi hg x) he
    rw [h1]
    exact .val hi h3
  | binOp op t x y q =>
    simp only [ho] at he
    unfold execOp; simp only [ho]
    exact ((opBin_ok hi x y (arg_ok hi hg x) (arg_ok hi hg y) he).a (T := fun _ => False) hi).v.weak (fun _ h => h.elim)
  | unOp op t x =>
    simp only [ho] at he
    unfold execOp; simp only [ho]
    exact ((opUn_ok hi (arg_ok hi hg x) he).a (T := fun _ => False) hi).v.weak (fun _ h => h.elim)
  | convert s t x =>
    simp only [ho] at he
    unfold execOp; simp only [ho]
    exact (opConv_ok hi (arg_ok hi hg x) he).v.weak (fun b h => by simp only [TS, ho]; exact h)
  | makeSlice t n c =>
    simp only [ho] at he
    split at he
    · split at he
      · unfold execOp; simp only [ho]
        exact (opMake_ok hi (arg_ok hi hg n) (arg_ok hi hg c) he).v.weak (fun _ h => h.elim)
      · simp at he
    · simp at he
  | makeMap t r =>
    cases r with
    | some _ => simp [ho] at he
    | none =>
      simp only [ho] at he
      split at he
      · unfold execOp; simp only [ho]
        exact (opMap_ok hi he).v.weak (fun _ h => h.elim)
      · simp at he
  | makeFunc fn first caps =>
    cases fn with
    | func fid =>
      simp only [ho, Option.some.injEq, Prod.mk.injEq, true_and] at he
      obtain ⟨rfl, rfl⟩ := he
      unfold execOp; simp only [ho, Instr.makeFunc]
      refine AfterN.val hi ⟨first.toList.map (evT tm), caps.toList.map (evT tm), ?_, lows (args_all hi hg _), lows (args_all hi hg _)⟩
      rw [map_toList (f := evT tm) (rfl : first.toList = _), map_toList (f := evT tm) (rfl : caps.toList = _)]
    | _ => simp [ho] at he
  | slice t x lo hh mx =>
    simp only [ho] at he
    unfold execOp; simp only [ho]
    split at he
    · rename_i hz
      obtain ⟨k, hz⟩ := isZero_some (tm := tm) hz
      have hm := optR_map hi hg mx
      rw [hz] at hm ⊢
      exact ((opSlice0_ok hi (arg_ok hi hg x) (optR_map hi hg lo) (optR_map hi hg hh) hm he).a (T := fun _ => False) hi).v.weak (fun _ h => h.elim)
    · exact ((opSlice_ok hi (arg_ok hi hg x) (optR_map hi hg lo) (optR_map hi hg hh) (optR_map hi hg mx) he).a (T := fun _ => False) hi).v.weak (fun _ h => h.elim)
  | fieldAddr t x f =>
    simp only [ho] at he
    unfold execOp; simp only [ho]
    exact ((opFld_ok hi (arg_ok hi hg x) he).a (T := fun _ => False) hi).v.weak (fun _ h => h.elim)
  | field t x f =>
    simp only [ho] at he
    unfold execOp; simp only [ho]
    exact ((opField_ok hi (arg_ok hi hg x) he).a (T := fun _ => False) hi).v.weak (fun _ h => h.elim)
  | indexAddr t x i =>
    simp only [ho] at he
    unfold execOp; simp only [ho]
    exact ((opIdxA_ok hi (arg_ok hi hg x) (arg_ok hi hg i) he).a (T := fun _ => False) hi).v.weak (fun _ h => h.elim)
  | index t x i =>
    simp only [ho] at he
    unfold execOp; simp only [ho]
    exact ((opIdx_ok hi (arg_ok hi hg x) (arg_ok hi hg i) he).a (T := fun _ => False) hi).v.weak (fun _ h => h.elim)
  | extract x i =>
    simp only [ho] at he
    unfold execOp; simp only [ho]
    exact ((opExtract_ok hi (arg_ok hi hg x) he).a (T := fun _ => False) hi).v.weak (fun _ h => h.elim)
  | call c =>
    simp only [ho] at he
    cases hc : c.callee with
    | builtin b =>
      simp only [hc] at he
      obtain ⟨k, hk⟩ := exec_builtin (C := C) (tm := tm) ho hc w
      rw [hk]
      cases b with
      | len =>
        simp only at he
        split at he
        · rename_i x t hx ht
          have h1 : c.argTypes = #[t] := Array.toList_inj.1 ht
          rw [map_toList (f := evT tm) hx, h1]
          exact ((opLen_ok hi (arg_ok hi hg x) he).a (T := fun _ => False) hi).v.weak (fun _ h => h.elim)
        · simp at he
      | append =>
        simp only at he
        split at he
        · rename_i x y t t2 hx ht
          have h1 : c.argTypes = #[t, t2] := Array.toList_inj.1 ht
          rw [map_toList (f := evT tm) hx, h1]
          split at he
          · split at he
            · exact (opAppend_ok hi (arg_ok hi hg x) (arg_ok hi hg y) he).v.weak (fun b h => by simp only [TS, ho, hc, hx]; exact h)
            · simp at he
          · simp at he
        · simp at he
      | copy =>
        simp only at he
        split at he
        · rename_i x y t t2 hx ht
          have h1 : c.argTypes = #[t, t2] := Array.toList_inj.1 ht
          rw [map_toList (f := evT tm) hx, h1]
          exact (opCopy_ok hi (arg_ok hi hg x) (arg_ok hi hg y) he).v.weak (fun b h => by simp only [TS, ho, hc, hx]; exact h)
        · simp at he
      | max =>
        simp only at he
        have hall := args_all hi hg c.args.toList
        cases hl : c.args.toList with
        | nil => simp [hl] at he
        | cons x xs =>
          rw [hl] at hall
          simp only [hl, List.map_cons] at he
          split at he
          · rename_i l k a r heq
            simp only [List.cons.injEq] at heq
            obtain ⟨h1, rfl⟩ := heq
            cases hm : maxL a (List.map (σ.arg C.G g) xs) k with
            | none => simp [hm] at he
            | some n =>
              simp only [hm, Option.some.injEq, Prod.mk.injEq, true_and] at he
              obtain ⟨rfl, rfl⟩ := he
              obtain ⟨a1, a2⟩ := hall
              rw [h1] at a1
              have e1 := of_int (k := k) (n := a) a1
              have e2 := maxL_ok hm a2
              have : (Builtin.max_ c.argTypes o.type (c.args.map (evT tm))).run C.P w = .ok (.int k n) w := by
                rw [map_toList (f := evT tm) hl]
                simp only [Builtin.max_, List.map_cons, e1]
                exact e2
              have h2 : After C I (fun _ => False) σ w tm (.v false (.int k) n) ((Builtin.max_ c.argTypes o.type (c.args.map (evT tm))).run C.P w) := by rw [this]; exact hi.after svr_int
              exact h2.v.weak (fun _ h => h.elim)
          · simp at he
      | min =>
        simp only at he
        have hall := args_all hi hg c.args.toList
        cases hl : c.args.toList with
        | nil => simp [hl] at he
        | cons x xs =>
          rw [hl] at hall
          simp only [hl, List.map_cons] at he
          split at he
          · rename_i l k a r heq
            simp only [List.cons.injEq] at heq
            obtain ⟨h1, rfl⟩ := heq
            cases hm : minL a (List.map (σ.arg C.G g) xs) k with
            | none => simp [hm] at he
            | some n =>
              simp only [hm, Option.some.injEq, Prod.mk.injEq, true_and] at he
              obtain ⟨rfl, rfl⟩ := he
              obtain ⟨a1, a2⟩ := hall
              rw [h1] at a1
              have e1 := of_int (k := k) (n := a) a1
              have e2 := minL_ok hm a2
              have : (Builtin.min_ c.argTypes o.type (c.args.map (evT tm))).run C.P w = .ok (.int k n) w := by
                rw [map_toList (f := evT tm) hl]
                simp only [Builtin.min_, List.map_cons, e1]
                exact e2
              have h2 : After C I (fun _ => False) σ w tm (.v false (.int k) n) ((Builtin.min_ c.argTypes o.type (c.args.map (evT tm))).run C.P w) := by rw [this]; exact hi.after svr_int
              exact h2.v.weak (fun _ h => h.elim)
          · simp at he
      | _ => simp at he
    | _ => simp [hc] at he
  | _ => simp [ho] at he
end
end Go.Proofs.YthlpjdjipchdkaaDoor.E

namespace Go.Proofs.YthlpjdjipchdkaaDoor.E
open Go
set_option linter.unusedSimpArgs false
set_option linter.unusedVariables false
theorem RL.toNil {α : Type} {R R' : α → List Value → List Nat → Prop} : ∀ {xs : List α} {cs X}, (∀ x c Y, (∀ b ∈ Y, b ∈ X) → R x c Y → R' x c []) → RL R xs cs X → RL R' xs cs []
  | [], _, _, _, ⟨h, _⟩ => ⟨h, rfl⟩
  | _ :: _, _, _, hr, ⟨c1, c2, X1, X2, h1, h2, h3, h4⟩ =>
    ⟨c1, c2, [], [], h1, rfl, hr _ _ _ (by subst h2; intro b hb; simp [hb]) h3, RL.toNil (fun x c Y hY => hr x c Y (by subst h2; intro b hb; have := hY b hb; simp [this])) h4⟩
theorem RM.toNil {α β : Type} {K K' : α → List Value → List Nat → Prop} {V V' : β → List Value → List Nat → Prop} {wk wv : List Value → Value} :
    ∀ {xs : List (α × β)} {es X}, (∀ x c, K x c [] → K' x c []) → (∀ x c Y, (∀ b ∈ Y, b ∈ X) → V x c Y → V' x c []) → RM K V wk wv xs es X → RM K' V' wk wv xs es []
  | [], _, _, _, _, ⟨h, _⟩ => ⟨h, rfl⟩
  | _ :: _, _, _, hk, hv, ⟨e, r, ck, cv, X1, X2, h1, h2, h3, h4, h5, h6, h7⟩ =>
    ⟨e, r, ck, cv, [], [], h1, rfl, h3, h4, hk _ _ h5, hv _ _ _ (by subst h2; intro b hb; simp [hb]) h6, RM.toNil hk (fun x c Y hY => hv x c Y (by subst h2; intro b hb; have := hY b hb; simp [this])) h7⟩
theorem Rep.lend {h : Hp} {S S' : Set'} (hS : ∀ b, S b → S' b) : ∀ {t : Ty} {l : Bool} {x : den t} {cs X}, (∀ b ∈ X, S' b) → Rep h S l t x cs X → Rep h S' true t x cs []
  | .int _, _, _, _, _, _, hr | .bool, _, _, _, _, _, hr | .str, _, _, _, _, _, hr | .unit, _, _, _, _, _, hr | .hole _, _, _, _, _, _, hr | .nils, _, _, _, _, _, hr => ⟨hr.1, rfl⟩
  | .nilp, _, _, _, _, _, hr => ⟨hr.1, rfl⟩
  | .raw _ _, _, _, _, _, _, hr => ⟨hr.1, hr.2.1, hr.2.2.1, hr.2.2.2.1, rfl⟩
  | .pair a b, _, _, _, _, hX, ⟨c1, c2, X1, X2, h1, h2, h3, h4⟩ =>
    ⟨c1, c2, [], [], h1, rfl, Rep.lend hS (fun b hb => hX b (by rw [h2]; simp [hb])) h3, Rep.lend hS (fun b hb => hX b (by rw [h2]; simp [hb])) h4⟩
  | .arr _ t, _, _, _, _, hX, ⟨h1, h2⟩ => ⟨h1, RL.toNil (fun x c Y hY hr => Rep.lend hS (fun b hb => hX b (hY b hb)) hr) h2⟩
  | .sl o t, l, _, _, _, hX, ⟨a, c, h1, h2, hr⟩ => by
    rcases hr with ⟨e1, e2, e3, h⟩ | ⟨b, of, arr, E, fr, X', e1, e2, e3, e4, hx⟩
    · exact ⟨a, c, h1, h2, .inl ⟨e1, e2, e3, rfl⟩⟩
    · refine ⟨a, c, h1, h2, .inr ⟨b, of, arr, E, fr, [], e1, e2, e3, ?_, ?_⟩⟩
      · refine RL.toNil (fun x c Y hY hr => Rep.lend hS (fun k hk => ?_) hr) e4
        split at hx
        · exact hX k (by rw [hx.1]; simp [hY k hk])
        · rw [hx.2.2] at hY; exact absurd (hY k hk) (by simp)
      · simp only [Bool.not_true, Bool.and_false, Bool.false_eq_true, if_false, and_true]
        split at hx
        · exact hX b (by rw [hx.1]; simp)
        · exact hS b hx.1
  | .ptr _ _, _, none, _, _, _, hr => ⟨hr.1, rfl⟩
  | .ptr o t, l, some _, _, _, hX, ⟨b, of, arr, E, fr, X', h1, h2, h2', h3, hx⟩ => by
    refine ⟨b, of, arr, E, fr, [], h1, h2, h2', Rep.lend hS (fun k hk => ?_) h3, ?_⟩
    · split at hx
      · exact hX k (by rw [hx.1]; simp [hk])
      · rw [hx.2.2] at hk; exact absurd hk (by simp)
    · simp only [Bool.not_true, Bool.and_false, Bool.false_eq_true, if_false, and_true]
      split at hx
      · exact hX b (by rw [hx.1]; simp)
      · exact hS b hx.1
  | .ref o t, l, _, _, _, hX, ⟨b, of, arr, E, fr, X', h1, h2, h2', h3, hx⟩ => by
    refine ⟨b, of, arr, E, fr, [], h1, h2, h2', Rep.lend hS (fun k hk => ?_) h3, ?_⟩
    · split at hx
      · exact hX k (by rw [hx.1]; simp [hk])
      · rw [hx.2.2] at hk; exact absurd hk (by simp)
    · simp only [Bool.not_true, Bool.and_false, Bool.false_eq_true, if_false, and_true]
      split at hx
      · exact hX b (by rw [hx.1]; simp)
      · exact hS b hx.1
  | .map o k v, l, _, _, _, hX, ⟨b, ents, clock, X', h1, h2, hB, h3, hx⟩ => by
    refine ⟨b, ents, clock, [], h1, h2, hB, RM.toNil (fun x c hr => Rep.lend hS (by simp) hr) (fun x c Y hY hr => Rep.lend hS (fun j hj => ?_) hr) h3, ?_⟩
    · split at hx
      · exact hX j (by rw [hx]; simp [hY j hj])
      · rw [hx.2.2] at hY; exact absurd (hY j hj) (by simp)
    · simp only [Bool.not_true, Bool.and_false, Bool.false_eq_true, if_false, and_true]
      split at hx
      · exact hX b (by rw [hx]; simp)
      · exact hS b hx.1
def Inc (Y Z : List Nat) : Prop := ∃ R, (Y ++ R).Perm Z
theorem Inc.refl {Y : List Nat} : Inc Y Y := ⟨[], by simp⟩
theorem Inc.nil {Z : List Nat} : Inc [] Z := ⟨Z, by simp⟩
theorem Inc.mem {Y Z : List Nat} (h : Inc Y Z) : ∀ b ∈ Y, b ∈ Z := by
  obtain ⟨R, hR⟩ := h
  intro b hb
  exact hR.mem_iff.1 (by simp [hb])
theorem Inc.nodup {Y Z : List Nat} (h : Inc Y Z) (hz : Z.Nodup) : Y.Nodup := by
  obtain ⟨R, hR⟩ := h
  exact (List.nodup_append.1 (hR.nodup_iff.2 hz)).1
theorem Inc.append {Y Z Y' Z' : List Nat} (h : Inc Y Z) (h' : Inc Y' Z') : Inc (Y ++ Y') (Z ++ Z') := by
  obtain ⟨R, hR⟩ := h
  obtain ⟨R', hR'⟩ := h'
  refine ⟨R ++ R', ?_⟩
  have e : (Y ++ Y' ++ (R ++ R')).Perm ((Y ++ R) ++ (Y' ++ R')) := by
    simp only [List.append_assoc]
    refine List.Perm.append_left Y ?_
    rw [← List.append_assoc, ← List.append_assoc]
    exact List.Perm.append_right R' List.perm_append_comm
  exact e.trans (hR.append hR')
theorem Inc.perm {Y Z Z' : List Nat} (h : Inc Y Z) (hp : Z.Perm Z') : Inc Y Z' := by
  obtain ⟨R, hR⟩ := h
  exact ⟨R, hR.trans hp⟩
theorem Inc.left {Y Z W : List Nat} (h : Inc Y Z) : Inc Y (Z ++ W) := by
  have := h.append (Inc.nil (Z := W))
  simpa using this
theorem Inc.cons {Y Z : List Nat} {b : Nat} (h : Inc Y Z) : Inc (b :: Y) (b :: Z) := by
  have := (Inc.refl (Y := [b])).append h
  simpa using this
theorem madj_rm {α γ : Type} {eq : α → α → Bool} {K : α → List Value → List Nat → Prop} {V : γ → List Value → List Nat → Prop} {wk wv : List Value → Value} {n : Nat} {y : α} {z : γ} {cw : List Value} {Xw : List Nat} (hw : V z cw Xw) :
    ∀ {xs : List (α × γ)} {es : List MapEntry} {X : List Nat}, RMz (eq y) K V wk wv n xs es X → HoleE (eq y) (wv cw) xs es → ∃ Y, RM K V wk wv (madj eq xs y z) es Y ∧ Inc Y (X ++ Xw)
  | [], es, X, ⟨h1, h2⟩, _ => ⟨[], ⟨h1, rfl⟩, Inc.nil⟩
  | (k, v0) :: xs, es, X, ⟨e, r, ck, cv, X1, X2, h1, h2, h3, h4, h5, h6⟩, hh => by
    subst h1
    simp only [HoleE] at hh
    simp only [madj]
    cases hq : eq y k with
    | true =>
      rw [hq] at h6 hh
      simp only [if_true] at h6 hh
      obtain ⟨_, rfl, h7⟩ := h6
      refine ⟨Xw ++ X2, ⟨e, r, ck, cw, Xw, X2, rfl, rfl, h3, hh, h5, hw, h7⟩, ?_⟩
      rw [h2]
      exact Inc.refl.perm List.perm_append_comm
    | false =>
      rw [hq] at h6 hh
      simp only [Bool.false_eq_true, if_false] at h6 hh
      obtain ⟨Y, g1, g2⟩ := madj_rm hw h6.2 hh
      refine ⟨X1 ++ Y, ⟨e, r, ck, cv, X1, Y, rfl, rfl, h3, h4, h5, h6.1, g1⟩, ?_⟩
      rw [h2, List.append_assoc]
      exact Inc.refl.append g2
theorem RMz.plain {α γ : Type} {K : α → List Value → List Nat → Prop} {V : γ → List Value → List Nat → Prop} {wk wv : List Value → Value} {n : Nat} :
    ∀ {xs : List (α × γ)} {es : List MapEntry} {X : List Nat}, RMz (fun _ => false) K V wk wv n xs es X → RM K V wk wv xs es X
  | [], _, _, h => h
  | _ :: _, _, _, ⟨e, r, ck, cv, X1, X2, h1, h2, h3, h4, h5, h6⟩ => ⟨e, r, ck, cv, X1, X2, h1, h2, h3, h4, h5, h6.1, RMz.plain h6.2⟩
theorem RM.toZ {α γ : Type} {K : α → List Value → List Nat → Prop} {V : γ → List Value → List Nat → Prop} {wk wv : List Value → Value} {n : Nat} :
    ∀ {xs : List (α × γ)} {es : List MapEntry} {X : List Nat}, RM K V wk wv xs es X → RMz (fun _ => false) K V wk wv n xs es X
  | [], _, _, h => h
  | _ :: _, _, _, ⟨e, r, ck, cv, X1, X2, h1, h2, h3, h4, h5, h6, h7⟩ => ⟨e, r, ck, cv, X1, X2, h1, h2, h3, h4, h5, h6, RM.toZ h7⟩
theorem Holes.split {β : Nat → Value} {ρ : List (Nat × Root)} {a b : Ty} {c1 c2 : List Value} (hl : c1.length = a.size) (hh : Holes β ρ (.pair a b) (c1 ++ c2)) : Holes β ρ a c1 ∧ Holes β ρ b c2 := by
  refine ⟨fun p hp hk => ?_, fun p hp hk => ?_⟩
  · have := hh p (by simp [holesOf, hp]) hk
    have hlt := (holesOf_lt hp).2
    rwa [List.getElem?_append_left (by omega)] at this
  · have := hh (p.1 + a.size, p.2) (by simp only [holesOf, List.mem_append]; right; rw [holesOf_shift]; exact List.mem_map.2 ⟨p, hp, by simp⟩) hk
    rw [List.getElem?_append_right (by simp; omega)] at this
    simpa [hl] using this
theorem mem_appN {n : Nat} : ∀ {a b : List Nat}, n ∈ appN a b ↔ n ∈ a ∨ n ∈ b
  | [], b => by simp [appN]
  | k :: a, b => by simp [appN, mem_appN (a := a), or_assoc]
theorem fullT_rep {h : Hp} {S : Set'} {l : Bool} {β : Nat → Value} {ρ : List (Nat × Root)} {G : List Nat → List Nat} (hG : ∀ a b, G (appN a b) = G a ++ G b) (hG0 : G [] = []) {q : Nat → Option FV} {P : Nat → Prop}
    (hq : ∀ k u y m, q k = some ⟨u, y, m⟩ → (∀ r ∈ m, P r) → look ρ k ≠ none ∧ u.isAgg = false ∧ ∃ X, Rep h S l u y [β k] X ∧ Inc X (G m)) :
    ∀ {t : Ty} {a : den t} {cs : List Value} {X : List Nat} {u : Ty} {y : den u} {m : List Nat}, fullT q t a = some ⟨u, y, m⟩ → (∀ r ∈ m, P r) → Rep h S l t a cs X → Holes β ρ t cs → ∃ Y, Rep h S l u y cs Y ∧ Inc Y (X ++ G m) ∧ u.isAgg = t.isAgg
  | .hole k, a, cs, X, u, y, m, hf, hP, hr, hh => by
    simp only [fullT] at hf
    obtain ⟨h1, h2, Z, h3, h4⟩ := hq k u y m hf hP
    obtain ⟨⟨v, rfl, _⟩, rfl⟩ := hr
    have := hh (0, k) (by simp [holesOf]) h1
    simp at this
    subst this
    exact ⟨Z, h3, by simpa using h4, h2⟩
  | .pair a b, x, cs, X, u, y, m, hf, hP, ⟨c1, c2, X1, X2, e1, e2, e3, e4⟩, hh => by
    subst e1
    simp only [fullT] at hf
    cases ha : fullT q a x.1 with
    | none => simp [ha] at hf
    | some p =>
      obtain ⟨u1, y1, m1⟩ := p
      simp only [ha] at hf
      cases hb : fullT q b x.2 with
      | none => simp [hb] at hf
      | some p =>
        obtain ⟨u2, y2, m2⟩ := p
        simp only [hb, Option.some.injEq, FV.mk.injEq] at hf
        obtain ⟨rfl, hf, rfl⟩ := hf
        have := eq_of_heq hf
        subst this
        obtain ⟨hh1, hh2⟩ := hh.split e3.len
        obtain ⟨Y1, g1, g2, _⟩ := fullT_rep hG hG0 hq ha (fun r hr => hP r (mem_appN.2 (.inl hr))) e3 hh1
        obtain ⟨Y2, g3, g4, _⟩ := fullT_rep hG hG0 hq hb (fun r hr => hP r (mem_appN.2 (.inr hr))) e4 hh2
        refine ⟨Y1 ++ Y2, ⟨c1, c2, Y1, Y2, rfl, rfl, g1, g3⟩, ?_, rfl⟩
        rw [hG, e2]
        refine (g2.append g4).perm ?_
        simp only [List.append_assoc]
        refine List.Perm.append_left X1 ?_
        rw [← List.append_assoc, ← List.append_assoc]
        exact List.Perm.append_right _ List.perm_append_comm
  | .int _, x, cs, X, u, y, m, hf, _, hr, _ | .bool, x, cs, X, u, y, m, hf, _, hr, _ | .str, x, cs, X, u, y, m, hf, _, hr, _ | .unit, x, cs, X, u, y, m, hf, _, hr, _ | .arr _ _, x, cs, X, u, y, m, hf, _, hr, _ | .sl _ _, x, cs, X, u, y, m, hf, _, hr, _
  | .ptr _ _, x, cs, X, u, y, m, hf, _, hr, _ | .ref _ _, x, cs, X, u, y, m, hf, _, hr, _ | .map _ _ _, x, cs, X, u, y, m, hf, _, hr, _ | .raw _ _, x, cs, X, u, y, m, hf, _, hr, _ | .nils, x, cs, X, u, y, m, hf, _, hr, _ | .nilp, x, cs, X, u, y, m, hf, _, hr, _ => by
    simp only [fullT, Option.some.injEq, FV.mk.injEq] at hf
    obtain ⟨rfl, hf, rfl⟩ := hf
    have := eq_of_heq hf
    subst this
    exact ⟨X, hr, by rw [hG0, List.append_nil]; exact Inc.refl, rfl⟩
theorem flat_app (F : Nat → List Nat) : ∀ a b : List Nat, ((appN a b).map F).flatten = (a.map F).flatten ++ (b.map F).flatten
  | [], b => rfl
  | k :: a, b => by simp [appN, flat_app F a b]
section
variable {C : Ctx} {I : Set'} {β : Nat → Value} {F : Nat → List Nat} {σ : St} {w : World} {tm : Array Value}
theorem fullR_ok (hi : Inv C I β F σ w tm) {len : Bool} : ∀ (n k : Nat) (u : Ty) (y : den u) (m : List Nat), fullR σ.r len n k = some ⟨u, y, m⟩ →
    look σ.r k ≠ none ∧ u.isAgg = false ∧ ∃ X, Rep (hpOf w) (Sx C.L I len) false u y [β k] X ∧ Inc X (m.map F).flatten
  | 0, k, u, y, m, h => by simp [fullR] at h
  | n + 1, k, u, y, m, h => by
    have ih := fullR_ok hi (len := len) n
    simp only [fullR] at h
    have hw : ∀ {l : Bool}, (!l || len) = true → ∀ b, Sx C.L I l b → Sx C.L I len b ∧ hpOf w b = hpOf w b := by
      rintro l hl b (hb | ⟨h1, hb⟩)
      · exact ⟨.inl hb, rfl⟩
      · subst h1; simp at hl; exact ⟨.inr ⟨hl, hb⟩, rfl⟩
    cases hk : look σ.r k with
    | none => simp [hk] at h
    | some R =>
      refine ⟨by simp, ?_⟩
      have hR := hi.roots k R hk
      have hH := hi.holes k R hk
      cases R with
      | box l t a =>
        simp only [hk] at h
        cases hl : (!l || len) with
        | false => simp [hl] at h
        | true =>
          simp only [hl] at h
          cases hf : fullT (fullR σ.r len n) t a with
          | none => simp [hf] at h
          | some p =>
            obtain ⟨u1, y1, m1⟩ := p
            simp only [hf, Option.some.injEq, FV.mk.injEq] at h
            obtain ⟨rfl, h, rfl⟩ := h
            have := eq_of_heq h
            subst this
            refine ⟨rfl, ?_⟩
            obtain ⟨b, o, arr, E', fr, X', e1, e2, e3, e4, e5⟩ := Rep.keep (hw hl) (fun _ _ => rfl) (show Rep (hpOf w) (Sx C.L I l) false (.ref true t) a [β k] (F k) from hR)
            obtain ⟨b', arr', E'', fr', g1, g2, g3⟩ := hH
            simp only [List.cons.injEq, and_true] at e1
            rw [g1] at e1
            simp only [Value.pointer.injEq, Option.some.injEq, Addr.mk.injEq, and_true] at e1
            obtain ⟨rfl, rfl⟩ := e1
            rw [g2] at e2
            simp only [Option.some.injEq, Obj.cells.injEq] at e2
            obtain ⟨rfl, rfl, rfl⟩ := e2
            simp only [Bool.and_true, if_true, Bool.not_false, Bool.not_true, Bool.or_self, Bool.or_false] at e4 e5
            have hcs : List.take t.size (List.drop 0 arr'.toList) = arr'.toList := by rw [List.drop_zero, List.take_of_length_le]; rw [Array.length_toList]; omega
            rw [hcs] at e4
            obtain ⟨Y, q1, q2, q3⟩ := fullT_rep (h := hpOf w) (S := Sx C.L I len) (l := false) (β := β) (ρ := σ.r) (G := fun m => (m.map F).flatten) (P := fun _ => True) (flat_app F) rfl (fun k u y m h _ => ih k u y m h) hf (fun _ _ => trivial) e4 g3
            have hsz : u1.size = t.size := q1.len.symm.trans e4.len
            refine ⟨b' :: Y, ⟨b', 0, arr', E'', fr', Y, by rw [g1], g2, by rw [hsz]; exact e3, ?_, ?_⟩, ?_⟩
            · rw [hsz, hcs]; exact q1
            · rw [if_pos (by rfl)]; rw [hsz]; exact ⟨rfl, e5.2.1, rfl, e5.2.2.2⟩
            · simp only [List.map_cons, List.flatten_cons, e5.1, List.cons_append]
              exact q2.cons
      | arr f l t xs =>
        simp only [hk] at h
        cases hl : (!l || len) with
        | false => simp [hl] at h
        | true =>
          simp only [hl, Option.some.injEq, FV.mk.injEq] at h
          obtain ⟨rfl, h, rfl⟩ := h
          have := eq_of_heq h
          subst this
          exact ⟨rfl, F k, Rep.keep (hw hl) (fun _ _ => rfl) hR.1, by simp; exact Inc.refl⟩
      | map l kt vt es z =>
        simp only [hk] at h
        cases hl : (!l || len) with
        | false => simp [hl] at h
        | true =>
          simp only [hl] at h
          obtain ⟨b, ents, clock, X', e1, e2, e3, e4, e5⟩ := RootR.keep (L := C.L) (I := I) (I' := I) (h := hpOf w) (h' := hpOf w) (fun b hb => ⟨hb, rfl⟩) (fun _ _ => rfl) (fun _ _ => rfl) hR
          have e4' := RMz.mono_mem (fun _ _ => Rep.keep (hw hl) (fun _ _ => rfl)) (fun _ _ _ _ => Rep.keep (hw hl) (fun _ _ => rfl)) e4
          cases z with
          | none =>
            simp only [Option.some.injEq, FV.mk.injEq] at h
            obtain ⟨rfl, h, rfl⟩ := h
            have := eq_of_heq h
            subst this
            refine ⟨rfl, F k, ⟨b, ents, clock, X', by rw [e1], e2, e3, RMz.plain e4', ?_⟩, by simp; exact Inc.refl⟩
            rw [if_pos (by rfl)]; exact e5
          | some p =>
            obtain ⟨yk, j⟩ := p
            simp only at h
            cases hj : fullR σ.r len n j with
            | none => simp [hj] at h
            | some p =>
              obtain ⟨u1, w1, m1⟩ := p
              simp only [hj] at h
              cases hc : cast? (t := u1) vt w1 with
              | none => simp [hc] at h
              | some w2 =>
                simp only [hc, Option.some.injEq, FV.mk.injEq] at h
                obtain ⟨rfl, h, rfl⟩ := h
                have := eq_of_heq h
                subst this
                obtain ⟨rfl, hc2⟩ := cast?_some hc
                have := eq_of_heq hc2
                subst this
                obtain ⟨j1, j2, Z, j3, j4⟩ := ih j _ _ _ hj
                obtain ⟨b', ents', clock', k1, k2, k3⟩ := hH j1
                rw [e1] at k1
                simp only [Value.map.injEq, Option.some.injEq] at k1
                subst k1
                rw [e2] at k2
                simp only [Option.some.injEq, Obj.map.injEq] at k2
                obtain ⟨rfl, rfl⟩ := k2
                have hwv : β j = wrapV u1 [β j] := by simp [wrapV, j2]
                rw [hwv] at k3
                obtain ⟨Y, q1, q2⟩ := madj_rm (eq := denEq kt) j3 e4' k3
                refine ⟨rfl, b :: Y, ⟨b, ents, clock, Y, by rw [e1], e2, e3, q1, ?_⟩, ?_⟩
                · rw [if_pos (by rfl)]
                · simp only [List.map_cons, List.flatten_cons, e5, List.cons_append]
                  obtain ⟨R, hR'⟩ := q2
                  obtain ⟨R2, hR2⟩ := j4
                  refine Inc.cons ⟨R ++ R2, ?_⟩
                  rw [← List.append_assoc]
                  refine (hR'.append_right R2).trans ?_
                  rw [List.append_assoc]
                  exact hR2.append_left X'
end
end Go.Proofs.YthlpjdjipchdkaaDoor.E

namespace Go.Proofs.YthlpjdjipchdkaaDoor.E
open Go
set_option linter.unusedSimpArgs false
set_option linter.unusedVariables false
theorem natMem_iff {n : Nat} : ∀ {l : List Nat}, natMem n l = true ↔ n ∈ l
  | [] => by simp [natMem]
  | k :: l => by
    simp only [natMem, Bool.or_eq_true, natMem_iff (l := l), List.mem_cons]
    constructor
    · rintro (h | h)
      · exact .inl (Nat.eq_of_beq_eq_true h).symm
      · exact .inr h
    · rintro (rfl | h)
      · exact .inl (Nat.beq_refl _)
      · exact .inr h
theorem nodupN_iff : ∀ {l : List Nat}, nodupN l = true → l.Nodup
  | [], _ => List.nodup_nil
  | k :: l, h => by
    simp only [nodupN, Bool.and_eq_true, Bool.not_eq_true'] at h
    refine List.nodup_cons.2 ⟨fun hm => ?_, nodupN_iff h.2⟩
    rw [natMem_iff.2 hm] at h; cases h.1
theorem fullT_mem {P : Nat → Prop} {q : Nat → Option FV} (hq : ∀ k u y m, q k = some ⟨u, y, m⟩ → ∀ r ∈ m, P r) :
    ∀ {t : Ty} {a : den t} {u : Ty} {y : den u} {m : List Nat}, fullT q t a = some ⟨u, y, m⟩ → ∀ r ∈ m, P r
  | .hole k, a, u, y, m, hf => hq k u y m (by simpa [fullT] using hf)
  | .pair a b, x, u, y, m, hf => by
    simp only [fullT] at hf
    cases ha : fullT q a x.1 with
    | none => simp [ha] at hf
    | some p =>
      obtain ⟨u1, y1, m1⟩ := p
      simp only [ha] at hf
      cases hb : fullT q b x.2 with
      | none => simp [hb] at hf
      | some p =>
        obtain ⟨u2, y2, m2⟩ := p
        simp only [hb, Option.some.injEq, FV.mk.injEq] at hf
        obtain ⟨rfl, _, rfl⟩ := hf
        intro r hr
        rcases mem_appN.1 hr with h | h
        · exact fullT_mem hq ha r h
        · exact fullT_mem hq hb r h
  | .int _, x, u, y, m, hf | .bool, x, u, y, m, hf | .str, x, u, y, m, hf | .unit, x, u, y, m, hf | .arr _ _, x, u, y, m, hf | .sl _ _, x, u, y, m, hf
  | .ptr _ _, x, u, y, m, hf | .ref _ _, x, u, y, m, hf | .map _ _ _, x, u, y, m, hf | .raw _ _, x, u, y, m, hf | .nils, x, u, y, m, hf | .nilp, x, u, y, m, hf => by
    simp only [fullT, Option.some.injEq, FV.mk.injEq] at hf
    obtain ⟨_, _, rfl⟩ := hf
    simp
theorem fullR_mem {ρ : List (Nat × Root)} {len : Bool} : ∀ (n k : Nat) (u : Ty) (y : den u) (m : List Nat), fullR ρ len n k = some ⟨u, y, m⟩ → ∀ r ∈ m, look ρ r ≠ none
  | 0, k, u, y, m, h => by simp [fullR] at h
  | n + 1, k, u, y, m, h => by
    have ih := fullR_mem (ρ := ρ) (len := len) n
    simp only [fullR] at h
    cases hk : look ρ k with
    | none => simp [hk] at h
    | some R =>
      have hself : look ρ k ≠ none := by rw [hk]; simp
      cases R with
      | box l t a =>
        simp only [hk] at h
        cases hl : (!l || len) with
        | false => simp [hl] at h
        | true =>
          simp only [hl] at h
          cases hf : fullT (fullR ρ len n) t a with
          | none => simp [hf] at h
          | some p =>
            obtain ⟨u1, y1, m1⟩ := p
            simp only [hf, Option.some.injEq, FV.mk.injEq] at h
            obtain ⟨rfl, _, rfl⟩ := h
            intro r hr
            rcases List.mem_cons.1 hr with rfl | hr
            · exact hself
            · exact fullT_mem ih hf r hr
      | arr f l t xs =>
        simp only [hk] at h
        cases hl : (!l || len) with
        | false => simp [hl] at h
        | true =>
          simp only [hl, Option.some.injEq, FV.mk.injEq] at h
          obtain ⟨rfl, _, rfl⟩ := h
          intro r hr
          simp at hr
          subst hr
          exact hself
      | map l kt vt es z =>
        simp only [hk] at h
        cases hl : (!l || len) with
        | false => simp [hl] at h
        | true =>
          simp only [hl] at h
          cases z with
          | none =>
            simp only [Option.some.injEq, FV.mk.injEq] at h
            obtain ⟨rfl, _, rfl⟩ := h
            intro r hr
            simp at hr
            subst hr
            exact hself
          | some p =>
            obtain ⟨yk, j⟩ := p
            simp only at h
            cases hj : fullR ρ len n j with
            | none => simp [hj] at h
            | some p =>
              obtain ⟨u1, w1, m1⟩ := p
              simp only [hj] at h
              cases hc : cast? (t := u1) vt w1 with
              | none => simp [hc] at h
              | some w2 =>
                simp only [hc, Option.some.injEq, FV.mk.injEq] at h
                obtain ⟨rfl, _, rfl⟩ := h
                intro r hr
                rcases List.mem_cons.1 hr with rfl | hr
                · exact hself
                · exact ih j _ _ _ hj r hr
section
variable {C : Ctx} {I : Set'} {β : Nat → Value} {F : Nat → List Nat} {σ : St} {w : World} {tm : Array Value}
theorem Inv.flat_nodup (hi : Inv C I β F σ w tm) : ∀ {m : List Nat}, m.Nodup → (∀ r ∈ m, look σ.r r ≠ none) → ((m.map F).flatten).Nodup
  | [], _, _ => by simp
  | r :: m, hn, hl => by
    simp only [List.map_cons, List.flatten_cons]
    obtain ⟨h1, h2⟩ := List.nodup_cons.1 hn
    cases hr : look σ.r r with
    | none => exact (hl r (by simp) hr).elim
    | some R =>
      refine List.nodup_append.2 ⟨hi.nodup r R hr, hi.flat_nodup h2 (fun k hk => hl k (by simp [hk])), ?_⟩
      intro a ha b hb hab
      subst hab
      obtain ⟨Y, hY, hb⟩ := List.mem_flatten.1 hb
      obtain ⟨k, hk, rfl⟩ := List.mem_map.1 hY
      cases hkl : look σ.r k with
      | none => exact hl k (by simp [hk]) hkl
      | some R' => exact hi.disj r k R R' (fun e => h1 (e ▸ hk)) hr hkl a ha hb
theorem takeN_ok (hi : Inv C I β F σ w tm) {τ : Ty} {sv : SV} {v : Value} {y : den τ} {m : List Nat} (hs : SVR (hpOf w) C.L I β σ.r sv v) (he : takeN σ τ sv = some (y, m)) :
    (∃ cs X, Rep (hpOf w) (Sx C.L I false) false τ y cs X ∧ v = wrapV τ cs ∧ Inc X (m.map F).flatten) ∧ m.Nodup ∧ ∀ r ∈ m, look σ.r r ≠ none := by
  have full : ∀ {r : Nat} {u : Ty} {x : den u} {m' : List Nat}, v = β r → fullR σ.r false 9 r = some ⟨u, x, m'⟩ → (match nodupN m', coe τ u x with | true, some z => some (z, m') | _, _ => none) = some (y, m) →
      (∃ cs X, Rep (hpOf w) (Sx C.L I false) false τ y cs X ∧ v = wrapV τ cs ∧ Inc X (m.map F).flatten) ∧ m.Nodup ∧ ∀ r ∈ m, look σ.r r ≠ none := by
    intro r u x m' hv hf hm
    cases hn : nodupN m' with
    | false => simp [hn] at hm
    | true =>
      cases hc : coe τ u x with
      | none => simp [hn, hc] at hm
      | some z =>
        simp only [hn, hc, Option.some.injEq, Prod.mk.injEq] at hm
        obtain ⟨rfl, rfl⟩ := hm
        obtain ⟨_, h2, X, h3, h4⟩ := fullR_ok hi 9 r u x m' hf
        obtain ⟨h5, h6⟩ := coe_rep hc h3
        exact ⟨⟨_, X, h5, by simp [wrapV, h6, h2, hv], h4⟩, nodupN_iff hn, fullR_mem 9 r u x m' hf⟩
  cases sv with
  | nl =>
    simp only [takeN] at he
    split at he
    · simp only [Option.some.injEq, Prod.mk.injEq] at he
      obtain ⟨rfl, rfl⟩ := he
      obtain ⟨a0, rfl⟩ : ∃ a0, v = .slice a0 0 0 := hs
      exact ⟨⟨[.slice a0 0 0], [], ⟨a0, 0, rfl, Nat.le_refl _, .inl ⟨rfl, rfl, rfl, rfl⟩⟩, rfl, Inc.nil⟩, List.nodup_nil, by simp⟩
    · simp at he
  | np =>
    simp only [takeN] at he
    split at he
    · simp only [Option.some.injEq, Prod.mk.injEq] at he
      obtain ⟨rfl, rfl⟩ := he
      obtain rfl := of_np hs
      exact ⟨⟨[.pointer none], [], ⟨rfl, rfl⟩, rfl, Inc.nil⟩, List.nodup_nil, by simp⟩
    · simp at he
  | s r lo n =>
    simp only [takeN] at he
    split at he
    · rename_i u
      obtain ⟨f, l, t, xs, h1, h2, h3⟩ := hs
      rw [h1] at he
      cases l with
      | true => simp at he
      | false =>
        simp only at he
        cases hc : cast? (t := .sl true t) (.sl true u) xs with
        | none => simp [hc] at he
        | some ys =>
          simp only [hc, Option.some.injEq, Prod.mk.injEq] at he
          obtain ⟨rfl, rfl⟩ := he
          obtain ⟨ht, hx⟩ := cast?_some hc
          simp only [Ty.sl.injEq, true_and] at ht
          subst ht
          have := eq_of_heq hx
          subst this
          refine ⟨?_, by simp, by intro r' hr'; simp at hr'; subst hr'; rw [h1]; simp⟩
          obtain ⟨⟨a, c, e1, e2, e3⟩, _⟩ := hi.roots r _ h1
          simp only [List.cons.injEq, and_true] at e1
          obtain ⟨a0, m0, c0, a', c', f1, rfl, f3, f4, f5⟩ := h3
          rw [f1] at e1
          simp only [Value.slice.injEq] at e1
          obtain ⟨rfl, rfl, rfl⟩ := e1
          have hlen : ((xs.drop lo).take n).length = n := by simp; omega
          rcases e3 with ⟨g1, g2, g3, _⟩ | ⟨b, of, arr, E', fr, X', g1, g2, g3, g4, g5⟩
          · subst g1
            simp at h2
            refine ⟨_, [], ⟨a', c', by rw [hlen], by rw [hlen]; exact f3, .inl ⟨by simp, rfl, by omega, rfl⟩⟩, rfl, Inc.nil⟩
          · simp only [Bool.and_true, if_true, Bool.not_false, Bool.not_true, Bool.or_self, Bool.or_false] at g4 g5
            rcases f5 with ⟨_, _, f5⟩ | ⟨b', o', k, f5, f6, f7, f8⟩
            · have : n = 0 := by omega
              subst this
              exact ⟨[.slice a' 0 c'], [], ⟨a', c', by simp, by simp, .inl ⟨by simp, rfl, f5, rfl⟩⟩, rfl, Inc.nil⟩
            · rw [g1] at f5
              simp only [Option.some.injEq, Addr.mk.injEq, and_true] at f5
              obtain ⟨rfl, rfl⟩ := f5
              subst f6
              have hle : k * t.size + c' * t.size ≤ c0 * t.size := by rw [← Nat.add_mul]; exact Nat.mul_le_mul_right _ f7
              by_cases hc0 : c' = 0
              · have : n = 0 := by omega
                subst this
                exact ⟨[.slice (some ⟨b, of + k * t.size, none⟩) 0 c'], [], ⟨_, c', by simp; rfl, by simp, .inl ⟨by simp, rfl, hc0, rfl⟩⟩, rfl, Inc.nil⟩
              · have hk : k = lo := by omega
                subst hk
                have exs : xs = xs.take k ++ ((xs.drop k).take n ++ (xs.drop k).drop n) := by rw [List.take_append_drop, List.take_append_drop]
                have g4' := g4
                rw [exs] at g4'
                obtain ⟨p1, p2, P1, P2, q1, q2, q3, q4⟩ := RL.split g4'
                obtain ⟨p3, p4, P3, P4, q5, q6, q7, q8⟩ := RL.split q4
                have hl1 := RL.len (fun _ _ _ => Rep.len) q3
                have hl3 := RL.len (fun _ _ _ => Rep.len) q7
                rw [hlen] at hl3
                have hlk : (xs.take k).length = k := by simp; omega
                rw [hlk] at hl1
                rw [← exs] at q1
                refine ⟨_, b :: P3, ⟨_, c', by rw [hlen], by rw [hlen]; exact f3, .inr ⟨b, of + k * t.size, arr, E', fr, P3, rfl, g2, by omega, ?_, ?_⟩⟩, rfl, ?_⟩
                · have : List.take (((xs.drop k).take n).length * t.size) (List.drop (of + k * t.size) arr.toList) = p3 := by
                    have hm : n * t.size + k * t.size ≤ xs.length * t.size := by rw [← Nat.add_mul]; exact Nat.mul_le_mul_right _ (by omega)
                    have e0 : List.take (n * t.size) (List.drop (k * t.size) (List.take (xs.length * t.size) (List.drop of arr.toList))) = List.take (n * t.size) (List.drop (of + k * t.size) arr.toList) := by
                      rw [List.drop_take, List.take_take, List.drop_drop]
                      congr 1; omega
                    rw [hlen, ← e0, q1, List.drop_left' hl1, q5, List.take_left' hl3]
                  rw [this]; exact q7
                · rw [if_pos (by rfl)]; exact ⟨rfl, g5.2⟩
                · simp only [List.map_cons, List.map_nil, List.flatten_cons, List.flatten_nil, List.append_nil, g5.1]
                  refine Inc.cons ⟨P1 ++ P4, ?_⟩
                  rw [q2, q6]
                  rw [← List.append_assoc, ← List.append_assoc]
                  exact List.Perm.append_right P4 List.perm_append_comm
    · simp at he
  | v l t a =>
    cases l with
    | true => simp [takeN] at he
    | false =>
      simp only [takeN] at he
      cases hf : fullT (fullR σ.r false 9) t a with
      | none => simp [hf] at he
      | some p =>
        obtain ⟨u, x, m'⟩ := p
        simp only [hf] at he
        cases hn : (nodupN m' && calmT t) with
        | false => simp [hn] at he
        | true =>
          cases hc : coe τ u x with
          | none => simp [hn, hc] at he
          | some z =>
            simp only [hn, hc, Option.some.injEq, Prod.mk.injEq] at he
            obtain ⟨rfl, rfl⟩ := he
            simp only [Bool.and_eq_true] at hn
            obtain ⟨cs, g1, g2, g3⟩ := hs
            obtain ⟨X, h3, h4, h5⟩ := fullT_rep (h := hpOf w) (S := Sx C.L I false) (l := false) (β := β) (ρ := σ.r) (G := fun m => (m.map F).flatten) (P := fun _ => True) (flat_app F) rfl (fun k u y m h _ => fullR_ok hi 9 k u y m h) hf (fun _ _ => trivial) (calm_any hn.2 g1) g3
            obtain ⟨h6, h7⟩ := coe_rep hc h3
            exact ⟨⟨cs, X, h6, by rw [g2]; simp [wrapV, h7, h5], by simpa using h4⟩, nodupN_iff hn.1, fullT_mem (fun k u y m => fullR_mem 9 k u y m) hf⟩
  | p r s =>
    cases s with
    | cons _ _ => simp [takeN] at he
    | nil =>
      simp only [takeN] at he
      cases hf : fullR σ.r false 9 r with
      | none => simp [hf] at he
      | some p =>
        obtain ⟨u, x, m'⟩ := p
        simp only [hf] at he
        obtain ⟨R, o, t, h1, h2, h3, h4⟩ := hs
        cases R with
        | box l t' a =>
          simp only [Root.off, selOff, Option.some.injEq, Prod.mk.injEq] at h2
          obtain ⟨rfl, rfl⟩ := h2
          rw [hi.ptr0 r l _ a h1] at h4
          exact full h4 hf he
        | arr f l t' xs => simp [Root.off] at h2
        | map _ _ _ _ _ => simp [Root.off] at h2
  | sf r =>
    simp only [takeN] at he
    cases hf : fullR σ.r false 9 r with
    | none => simp [hf] at he
    | some p =>
      obtain ⟨u, x, m'⟩ := p
      simp only [hf] at he
      obtain ⟨f, l, t, xs, h1, h2⟩ := hs
      exact full h2 hf he
  | mp r =>
    simp only [takeN] at he
    cases hf : fullR σ.r false 9 r with
    | none => simp [hf] at he
    | some p =>
      obtain ⟨u, x, m'⟩ := p
      simp only [hf] at he
      obtain ⟨l, k, vt, es, z, h1, h2⟩ := hs
      exact full h2 hf he
  | _ => simp [takeN] at he
end
end Go.Proofs.YthlpjdjipchdkaaDoor.E

