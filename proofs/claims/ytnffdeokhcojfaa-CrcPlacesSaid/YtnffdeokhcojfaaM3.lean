/- The forms of the functions, and plain laws on what they come to. No condition. -/
import Derived.Test.YtnffdeokhcojfaaM2
import Derived.SizedLaws

namespace Go.Proofs.Ytnffdeokhcojfaa.E
open Go Go.ChangeShapes Go.WideShapes Go.RowKit
set_option linter.unusedSimpArgs false
set_option linter.unusedVariables false

theorem bytes_of (P : Program) (h : ((List.range P.types.size).all fun t => match P.underlying t with | some (.slice e) => decide (0 < P.bytesOf e) | _ => true) = true) : ∀ t e, t < P.types.size → P.underlying t = some (.slice e) → 0 < P.bytesOf e := by
  intro t e hl ht
  have := List.all_eq_true.1 h t (List.mem_range.2 hl)
  rw [ht] at this
  simpa using this

/-- as inTy, with the form's own reach -/
def inTyS : (τ : Ty) → den τ → Prop
  | .int k, (n : Int) => k.min ≤ n ∧ n ≤ k.max
  | .str, s => s.length ≤ reachBytes
  | .pair a b, x => inTyS a x.1 ∧ inTyS b x.2
  | .sl _ t, xs => xs.length ≤ reachBytes ∧ ∀ x ∈ xs, inTyS t x
  | _, _ => True

theorem inTyS.inTy : ∀ {τ : Ty} {a : den τ}, inTyS τ a → inTy τ a
  | .int k, _, h => h
  | .str, s, h => Nat.le_trans (show s.length ≤ reachBytes from h) (by decide)
  | .pair a b, x, h => ⟨inTyS.inTy h.1, inTyS.inTy h.2⟩
  | .sl _ t, xs, h => ⟨Nat.le_trans h.1 (by decide), fun x hx => inTyS.inTy (h.2 x hx)⟩
  | .bool, _, _ => trivial
  | .unit, _, _ => trivial
  | .arr _ _, _, _ => trivial
  | .ptr _ _, _, _ => trivial
  | .ref _ _, _, _ => trivial
  | .map _ _ _, _, _ => trivial

def inTySL : (ps : List (Bool × Ty)) → denL (ps.map (·.2)) → Prop
  | [], _ => True
  | (_, τ) :: ps, (a, r) => inTyS τ a ∧ inTySL ps r

section
variable {P : Program} {T : Tab} {H : Type} {enc : TypeId × Value → H} {w : World}

theorem weightsAll_mem {e : TypeId} {d : DataW H} : ∀ {ds : List (DataW H)} {n : Nat}, d ∈ ds → n ∈ d.weights P e → n ∈ DataW.weightsAll P e ds
  | d0 :: ds, n, h, hn => by
    simp only [DataW.weightsAll, List.mem_append]
    rcases List.mem_cons.1 h with rfl | h
    · exact .inl hn
    · exact .inr (weightsAll_mem h hn)

theorem trod_repS (hT : TabOk P T) (kids : Kids P (· < P.types.size)) (hby : ∀ t e, t < P.types.size → P.underlying t = some (.slice e) → 0 < P.bytesOf e) : ∀ (n : Nat),
    (∀ {t : TypeId} {τ : Ty}, fitsB T n t τ = true → ∀ {fuel : Nat} {cs : List Value} {x : DataW H × List MemPlace}, DataW.trod enc P w 0 (fun _ => true) true fuel t cs = some x → (∀ n ∈ x.1.weights P t, n ≤ reachBytes) → t < P.types.size →
      ∃ a : den τ, Rep (hpOf w) (fun b => b < w.heap.size) true τ a cs [] ∧ inTyS τ a) ∧
    (∀ {fs : List Field} {τ : Ty} {o : Nat}, fitsFB T n fs τ o = true → ∀ {cs : List Value}, (∀ f ∈ fs, f.type < P.types.size ∧ ∃ fuel, ∃ x : DataW H × List MemPlace, DataW.trod enc P w 0 (fun _ => true) true fuel f.type ((cs.drop f.offset).take (P.cellsOf f.type)) = some x ∧ ∀ n ∈ x.1.weights P f.type, n ≤ reachBytes) →
      o + τ.size = cs.length → ∃ a : den τ, Rep (hpOf w) (fun b => b < w.heap.size) true τ a (cs.drop o) [] ∧ inTyS τ a)
  | 0 => ⟨fun h => by simp [fitsB] at h, fun h => by simp [fitsFB] at h⟩
  | n + 1 => by
    obtain ⟨ih1, ih2⟩ := trod_repS hT kids hby n
    constructor
    · intro t τ h fuel cs x hx hwt hts
      unfold fitsB at h
      split at h
      · rename_i k j hu
        obtain rfl := kindEq_iff h
        obtain ⟨m, rfl, _, h3⟩ := DataW.trod_int (und_P hT hu) hx
        refine ⟨m, ⟨rfl, rfl⟩, ?_⟩
        simp only [Lit.wf, Bool.and_eq_true, decide_eq_true_eq] at h3
        exact h3
      · rename_i hu
        obtain ⟨b, rfl, _⟩ := DataW.trod_bool (und_P hT hu) hx
        exact ⟨b, ⟨rfl, rfl⟩, trivial⟩
      · rename_i hu
        obtain ⟨s, rfl, rfl, h3⟩ := DataW.trod_string (und_P hT hu) hx
        refine ⟨s.data.toList, ⟨rfl, rfl⟩, ?_⟩
        exact hwt _ (by simp [DataW.weights])
      · rename_i e u hu
        simp only [Bool.and_eq_true, Bool.not_eq_true'] at h
        obtain ⟨⟨h1, h2⟩, h3⟩ := h
        have hsz := sz_P hT h1
        have hpos : 0 < u.size := by
          rcases Nat.eq_zero_or_pos u.size with h0 | h0
          · rw [h0] at h2; simp at h2
          · exact h0
        rcases DataW.trod_slice (und_P hT hu) hx with ⟨rfl, _⟩ | ⟨a, len, cap, elems, rest, m, _, rfl, rfl, _, hlc, hcm, hel, hread, hspare, _⟩
        · exact ⟨[], ⟨none, 0, rfl, Nat.le_refl _, .inl ⟨rfl, rfl, rfl, rfl⟩⟩, by simp [inTyS]⟩
        · obtain ⟨hrl, hrest⟩ := hspare rfl
          have hbe : 0 < P.bytesOf e := hby t e hts (und_P hT hu)
          simp only [DataW.weights, und_P hT hu, List.mem_cons, List.mem_append, forall_eq_or_imp, List.length_map] at hwt
          have hlr : len ≤ reachBytes := by
            have h0 := hwt.1
            have := Nat.le_mul_of_pos_right (elems.length + rest.length) hbe
            omega
          by_cases hc0 : cap = 0
          · subst hc0
            obtain rfl : len = 0 := by omega
            exact ⟨[], ⟨some a, 0, rfl, Nat.le_refl _, .inl ⟨rfl, rfl, rfl, rfl⟩⟩, by simp [inTyS]⟩
          · have hall : ∀ i, i < cap → ∃ cs', w.cells? 0 (a.add (i * u.size)) u.size = some cs' ∧ ∃ y, DataW.trod enc P w 0 (fun _ => true) true m e cs' = some y ∧ ∀ n ∈ y.1.weights P e, n ≤ reachBytes := by
              intro i hi
              have hget : ∃ y, (w.cells? 0 (a.add (i * u.size)) u.size).bind (DataW.trod enc P w 0 (fun _ => true) true m e) = some y ∧ ∀ n ∈ y.1.weights P e, n ≤ reachBytes := by
                rw [← hsz]
                by_cases hl : i < len
                · rw [hread i hl]; exact ⟨elems[i], by rw [List.getElem?_eq_getElem], fun n hn => hwt.2 n (.inl (weightsAll_mem (List.mem_map.2 ⟨elems[i], List.getElem_mem _, rfl⟩) hn))⟩
                · have := hrest (i - len) (by omega)
                  rw [show len + (i - len) = i by omega] at this
                  rw [this]; exact ⟨rest[i - len], by rw [List.getElem?_eq_getElem], fun n hn => hwt.2 n (.inr (weightsAll_mem (List.mem_map.2 ⟨rest[i - len], List.getElem_mem _, rfl⟩) hn))⟩
              obtain ⟨y, hy, hyw⟩ := hget
              rw [Option.bind_eq_some_iff] at hy
              obtain ⟨cs', h5, h6⟩ := hy
              exact ⟨cs', h5, y, h6, hyw⟩
            obtain ⟨b, o, s⟩ := a
            obtain ⟨cs0, g0, _⟩ := hall 0 (by omega)
            obtain ⟨arr, E', fr, hs, hb, _, _⟩ := cells_block g0 hpos
            have hs0 : s = none := by
              cases s with
              | none => rfl
              | some k => simp [Addr.add] at hs
            subst hs0
            simp only [addr_add] at hall hb
            have hblk : ∀ i, i < cap → o + i * u.size + u.size ≤ arr.size ∧ ∃ x : den u, Rep (hpOf w) (fun b => b < w.heap.size) true u x ((arr.toList.drop (o + i * u.size)).take u.size) [] ∧ inTyS u x := by
              intro i hi
              obtain ⟨cs', h5, y, h6, hyw⟩ := hall i hi
              obtain ⟨arr', E2, fr', _, hb', hsz', rfl⟩ := cells_block h5 hpos
              simp only at hb' hsz'
              rw [hb] at hb'
              simp only [Option.some.injEq, Obj.cells.injEq] at hb'
              obtain ⟨rfl, _, _⟩ := hb'
              exact ⟨hsz', ih1 h3 h6 hyw (kids.slice hts (und_P hT hu))⟩
            have hbl : b < w.heap.size := by
              have : w.heap[b]? = some (.cells arr E' fr) := hb
              exact (Array.getElem?_eq_some_iff.1 this).1
            have hcap : o + cap * u.size ≤ arr.size := by
              have := (hblk (cap - 1) (by omega)).1
              have e : cap * u.size = (cap - 1) * u.size + u.size := by
                conv => lhs; rw [show cap = (cap - 1) + 1 by omega, Nat.add_mul, Nat.one_mul]
              omega
            have hch : ∀ i, ∃ x : den u, i < len → Rep (hpOf w) (fun b => b < w.heap.size) true u x ((arr.toList.drop (o + i * u.size)).take u.size) [] ∧ inTyS u x := by
              intro i
              by_cases hi : i < len
              · obtain ⟨x, hx⟩ := (hblk i (by omega)).2; exact ⟨x, fun _ => hx⟩
              · exact ⟨dflt u, fun h => (hi h).elim⟩
            have hch' : ∃ f : Nat → den u, ∀ i, i < len → Rep (hpOf w) (fun b => b < w.heap.size) true u (f i) ((arr.toList.drop (o + i * u.size)).take u.size) [] ∧ inTyS u (f i) :=
              ⟨fun i => Classical.choose (hch i), fun i => Classical.choose_spec (hch i)⟩
            obtain ⟨f, hf⟩ := hch'
            refine ⟨(List.range len).map f, ⟨some ⟨b, o, none⟩, cap, by simp, by simpa using hlc, .inr ⟨b, o, arr, E', fr, [], rfl, hb, hcap, ?_, ?_⟩⟩, ?_⟩
            · have hle : len * u.size ≤ cap * u.size := Nat.mul_le_mul_right _ hlc
              have := RL.cat (R := Rep (hpOf w) (fun b => b < w.heap.size) true u) (s := u.size) (cs := arr.toList.drop o) len 0 f (fun i hi => by
                rw [List.drop_drop, Nat.zero_add]; exact (hf i hi).1) (by simp; omega)
              simpa using this
            · simp [hbl]
            · refine ⟨by simp; omega, fun x hx => ?_⟩
              obtain ⟨i, hi, rfl⟩ := List.mem_map.1 hx
              exact (hf i (by simpa using hi)).2
      · rename_i τ' fs hu
        simp only [Bool.and_eq_true] at h
        obtain ⟨h1, h2⟩ := h
        obtain ⟨xs, m, _, rfl, hl, hlen, hf⟩ := DataW.trod_struct (und_P hT hu) hx
        obtain ⟨a, h3, h4⟩ := ih2 h2 (cs := cs) (fun f hfm => by
          obtain ⟨i, hi, rfl⟩ := List.getElem_of_mem hfm
          have hi' : i < fs.size := by simpa using hi
          have := hf i fs[i] (by simp [hi'])
          refine ⟨(kids.struct hts (und_P hT hu)).1 _ (List.getElem_mem _), m, xs[i], ?_⟩
          refine ⟨by rw [Array.getElem_toList, this, List.getElem?_eq_getElem], fun n hn => hwt n ?_⟩
          simp only [DataW.weights, und_P hT hu]
          exact DataW.weights_mem_each (j := i) (t := fs[i].type) (d := (xs[i]).1) (by simp [hi']) (by simp [hlen, hi']) n (by simpa using hn)) (by rw [hl, sz_P hT h1]; simp)
        exact ⟨a, by simpa using h3, h4⟩
      · cases h
    · intro fs τ o h cs hfs hlen
      unfold fitsFB at h
      split at h
      · rename_i h0; cases h0
      · refine ⟨(), ⟨?_, rfl⟩, trivial⟩
        apply List.drop_eq_nil_of_le
        simp [Ty.size] at hlen
        omega
      · rename_i o' m f fs a b hn
        obtain rfl : m = n := by omega
        simp only [Bool.and_eq_true] at h
        obtain ⟨⟨⟨h1, h2⟩, h3⟩, h4⟩ := h
        obtain rfl := Nat.eq_of_beq_eq_true h1
        simp only [Ty.size] at hlen
        obtain ⟨hfz, fuel, x, hx, hxw⟩ := hfs f (by simp)
        rw [sz_P hT h2] at hx
        obtain ⟨y, g1, g2⟩ := ih1 h3 hx hxw hfz
        obtain ⟨z, k1, k2⟩ := ih2 h4 (cs := cs) (fun f' hf' => hfs f' (by simp [hf'])) (by omega)
        refine ⟨(y, z), ⟨(cs.drop f.offset).take a.size, cs.drop (f.offset + a.size), [], [], ?_, rfl, g1, k1⟩, g2, k2⟩
        rw [← List.drop_drop, List.take_append_drop]
      · cases h


theorem args_ofS (hT : TabOk P T) (kids : Kids P (· < P.types.size)) (hby : ∀ t e, t < P.types.size → P.underlying t = some (.slice e) → 0 < P.bytesOf e) {b0 : Nat} {L I : Set'} (hL : ∀ b, b < w.heap.size → L b) : ∀ {ts : List TypeId} {ps : List (Bool × Ty)} {vs : List Value} {ds : List (DataW H)} {q : List MemPlace}, fitsLB T ts ps = true →
    DataW.TrodAll enc P w 0 (fun _ => true) true ts vs ds q → (∀ n ∈ DataW.weightsEach P ts ds, n ≤ reachBytes) → (∀ t ∈ ts, t < P.types.size) → (∀ (j : Nat) t v, ts[j]? = some t → vs[j]? = some v → Value.okWide P w .any b0 t v) →
    ∃ a : denL (ps.map (·.2)), ArgsR (hpOf w) L I ps a vs (ps.map fun _ => []) ∧ inTySL ps a
  | [], [], vs, ds, q, _, hA, _, _, _ => by
    obtain ⟨rfl, rfl, rfl⟩ := trodAll_nil hA
    exact ⟨(), trivial, trivial⟩
  | [], _ :: _, _, _, _, h, _, _, _, _ => by simp [fitsLB] at h
  | _ :: _, [], _, _, _, h, _, _, _, _ => by simp [fitsLB] at h
  | _ :: _, (false, _) :: _, _, _, _, h, _, _, _, _ => by simp [fitsLB] at h
  | t :: ts, (true, τ) :: ps, vs, ds, q, h, hA, hwt, hps, hv => by
    simp only [fitsLB, Bool.and_eq_true] at h
    obtain ⟨v, vs', d, ds', p, q', rfl, rfl, rfl, h1, h2⟩ := trodAll_cons hA
    obtain ⟨a, g1, g2⟩ := args_ofS hT kids hby hL (I := I) h.2 h2 (fun n hn => hwt n (by simp only [DataW.weightsEach, List.mem_append]; exact .inr hn)) (fun t ht => hps t (by simp [ht])) (fun j t' v' e1 e2 => hv (j + 1) t' v' (by simpa using e1) (by simpa using e2))
    obtain ⟨fuel, hx⟩ := h1
    obtain ⟨x, k1, k2⟩ := (trod_repS hT kids hby 40).1 h.1 hx (fun n hn => hwt n (by simp only [DataW.weightsEach, List.mem_append]; exact .inl hn)) (hps t (by simp))
    refine ⟨(x, a), ⟨⟨_, Rep.keep (S := fun b => b < w.heap.size) (fun b hb => ⟨.inr ⟨rfl, hL b hb⟩, rfl⟩) (fun _ _ => rfl) k1, wrap_ok hT h.1 (hv 0 t v (by simp) (by simp))⟩, g1⟩, k2, g2⟩

/-- WHAT A LAW'S ROW ASKS OF ITS CALL, from the plain fact -/
theorem law_callsS (hT : TabOk P T) (hby : ∀ t e, t < P.types.size → P.underlying t = some (.slice e) → 0 < P.bytesOf e) {f : FuncId} {fd : Func} {ps : List (Bool × Ty)} {s : ChangeSpec} {apart fresh handsOn again : Bool} {tb : TypeId}
    (kids : Kids P (· < P.types.size)) (full : ∀ t e, t < P.types.size → P.underlying t = some (.slice e) → 0 < P.cellsOf e)
    (hps : ∀ t ∈ fd.params.toList, t < P.types.size) (hfit : fitsLB T fd.params.toList ps = true) (hrt : fd.resultTypes = #[tb]) (htb : P.underlying tb = some .bool)
    (hvars : s.vars = []) (hs : ∀ ds : List (DataW H), ds.length = fd.params.size → s.fn H ds = { results := [.lit (.bool true)], args := ds })
    (hH : ∀ a : denL (ps.map (·.2)), inTySL ps a → ∃ o, Hold P T f ps [.bool] a (true, ()) o)
    (W : World) (base : Nat) (args : Array Value) (ds gs : List (DataW H)) (before : List MemPlace)
    (hval : ∀ (j : Nat) t v, fd.params[j]? = some t → args[j]? = some v → Value.okWide P W .any base t v)
    (hW : DataW.Whole enc P fd.params.toList s.vars apart W args.toList ds gs before)
    (hsz : (DataW.weightsEach P (fd.params.toList ++ s.plain.varTypes P) (ds ++ gs)).all (· ≤ reachBytes) = true) :
    Calls P f args W fun e W' => ∃ v, e = .returned v ∧ s.post enc P fd apart fresh handsOn again W args v W' := by
  obtain ⟨p, q, hA, hV, hpq, hfz, hnd⟩ := id hW
  rw [hvars] at hV
  obtain ⟨rfl, rfl⟩ := trodVars_none hV
  rw [List.append_nil] at hpq
  subst hpq
  have hwt : ∀ n ∈ DataW.weightsEach P fd.params.toList ds, n ≤ reachBytes := by
    intro n hn
    have hvt : s.plain.varTypes P = [] := by
      unfold DataSpec.varTypes
      have : s.plain.vars = [] := hvars
      rw [this]; rfl
    rw [hvt, List.append_nil, List.append_nil] at hsz
    simpa using List.all_eq_true.1 hsz n hn
  let C : Ctx := { P := P, T := T, h := hpOf W, n := W.heap.size, L := fun b => b < W.heap.size, I := fun _ => False, X := fun _ => False, z := restOf W
                   Iok := fun _ h => h.elim
                   Lok := fun b h => ⟨h, fun h => h⟩
                   ok := hT }
  obtain ⟨a, ha, hin⟩ := args_ofS (I := C.I) (L := C.L) hT kids hby (fun b h => h) hfit hA hwt hps (fun j t v e1 e2 => hval j t v (by simpa using e1) (by simpa using e2))
  obtain ⟨o, hh⟩ := hH a hin
  have hX : ∀ l : List (Bool × Ty), ((l.map fun _ => ([] : List Nat))).flatten = [] := by
    intro l
    induction l with
    | nil => rfl
    | cons _ _ ih => simp
  have := hh C rfl rfl W args.toList _ rfl rfl rfl ha (fun b => by rw [hX]; simp [C]) (by rw [hX]; simp) (by rw [hX]; simp)
  rw [Array.toArray_toList] at this
  refine this.mono ?_
  rintro e W' ⟨v, I', vals, Ys, Zs, rfl, hB⟩
  have hfr : ∀ b, b < W.heap.size → hpOf W' b = hpOf W b := fun b hb => hB.frame b hb (fun h => h)
  have hv : v = .bool true := by
    have hr := hB.rets
    have hval := hB.val
    match vals, Ys, hr with
    | [v1], [Y1], ⟨⟨cs, h1, h2⟩, _⟩ =>
      rw [hval, h2, h1.1]; rfl
    | [], _, h => exact h.elim
    | [_], [], h => exact h.elim
    | _ :: _ :: _, [], h => exact h.elim
    | _ :: _ :: _, _ :: _, ⟨_, h⟩ => exact h.elim
    | [_], _ :: _ :: _, ⟨_, h⟩ => exact h.elim
  subst hv
  refine ⟨_, rfl, ?_⟩
  have hlen := trodAll_len hA
  have hs' := hs ds (by simpa using hlen)
  have hold : ∀ b ∈ before, (fun b => decide (b < W.heap.size)) b.block = true := fun b hb => by simpa using hW.lt b hb
  have hargs : ∀ sp : Nat → Bool, (∀ p ∈ before, sp p.block = true) → DataW.TrodAll enc P W' 0 sp true fd.params.toList args.toList ds before := fun sp hsp =>
    DataW.TrodAll.respare kids full hps (trodAll_carry hfr hA) hsp
  have hres : ∀ (b : Nat) (sp : Nat → Bool) (hd : Bool), DataW.TrodAll enc P W' b sp hd fd.resultTypes.toList ((Value.bool true).resultList fd.resultTypes.size) [.lit (.bool true)] [] := by
    intro b sp hd
    rw [hrt]
    exact trodAll_mk1 (shut_bool htb true)
  have hz : ∀ b off, MemPlace.cell b off ∈ before → W'.frozen? ⟨b, off, none⟩ = false := by
    intro b off hp
    have hlt : b < W.heap.size := hW.lt _ hp
    rw [← hfz b off hp]
    have e : W'.heap[b]? = W.heap[b]? := hfr b hlt
    unfold World.frozen?
    simp only [e]
  refine ⟨ds, [], before, [], before, [], hW, ?_, ?_, ?_, kept_of_heap hfr hB.rest, fun _ => ⟨?_, [.lit (.bool true)] ++ ds, [], [] ++ before, ⟨[] ++ before, [], trodAll_append (hargs _ (fun _ _ => rfl)) (hres _ _ _), ?_, by simp, by simpa [World.noneFrozen] using hz, by simpa using hnd⟩, fun p hp _ => by simpa using hp⟩⟩
  · rw [List.append_nil, hs']; exact hres _ _ _
  · rw [List.append_nil, hs']; exact hargs _ hold
  · rw [List.append_nil, hs', hvars]; exact rfl
  · intro j t r h1 h2
    rw [hrt] at h1 h2
    cases j with
    | zero =>
      simp [Value.resultList] at h1 h2
      subst h1; subst h2
      simp [Value.okWide, htb, Cell.okWide, Cell.ok]
    | succ j => simp at h1
  · rw [hvars]; exact rfl

end
end Go.Proofs.Ytnffdeokhcojfaa.E

namespace Go.Proofs.Ytnffdeokhcojfaa.E
open Go
set_option linter.unusedSimpArgs false
set_option linter.unusedVariables false

theorem byts_of {l : List (List Int)} (h : inTyS (.sl false (.sl false (.int .u8))) l) : ∀ x ∈ l, Byt x ∧ x.length ≤ 140737488355328 := fun x hx =>
  ⟨byt_of (h.2 x hx).inTy, Nat.le_trans (h.2 x hx).1 (by decide)⟩

/-- how much a row of texts weighs -/
def wt : List (List Int) → Nat
  | [] => 0
  | t :: r => 1 + t.length + wt r

/-- the frames of a row -/
def cat : List (List Int) → List Int
  | [] => []
  | t :: r => frame t ++ cat r

theorem wt_append : ∀ a b, wt (a ++ b) = wt a + wt b
  | [], b => by simp [wt]
  | t :: r, b => by rw [List.cons_append, wt, wt, wt_append r b]; omega

theorem cat_append : ∀ a b, cat (a ++ b) = cat a ++ cat b
  | [], b => rfl
  | t :: r, b => by rw [List.cons_append, cat, cat, cat_append r b, List.append_assoc]

theorem cat_len : ∀ l, (cat l).length ≤ 8 * wt l
  | [] => by simp [cat]
  | t :: r => by
    have := cat_len r
    rw [cat, wt, List.length_append, frame_len]; omega

theorem cat_byt : ∀ {l : List (List Int)}, (∀ x ∈ l, Byt x) → Byt (cat l)
  | [], _ => by intro x hx; simp [cat] at hx
  | t :: r, h => by
    intro x hx
    rcases List.mem_append.1 hx with hx | hx
    · exact frame_byt (h t List.mem_cons_self) x hx
    · exact cat_byt (fun x hx => h x (List.mem_cons_of_mem _ hx)) x hx

theorem wt_len : ∀ (l : List (List Int)), l.length ≤ wt l ∧ ∀ x ∈ l, x.length ≤ wt l
  | [] => ⟨by simp, by simp⟩
  | t :: r => by
    have h := wt_len r
    refine ⟨by simp [wt]; omega, fun x hx => ?_⟩
    rcases List.mem_cons.1 hx with rfl | hx
    · simp [wt]; omega
    · have := h.2 x hx; simp [wt]; omega

theorem take_s (l : List (List Int)) (i : Nat) (h : i < l.length) : l.take (i + 1) = l.take i ++ [l.getD i []] := by
  rw [List.take_succ_eq_append_getElem h]; simp [List.getD, h]

theorem L32_eq (k : Nat) (l : List (List Int)) (M : Nat) (hM : M ≤ 1000000) (hl : ∀ x ∈ l, x.length ≤ 140737488355328) (hn : l.length ≤ M) : ∀ (m i : Nat), i ≤ l.length → l.length - i < m →
    ∃ W i' : Int, L32_0 k l (M : Int) m (((wt (l.take i) : Nat) : Int), ((i : Int), ())) = some (.brk (W, (i', ()))) ∧ (W = wt l ∨ W > M)
  | 0, i, h1, h2 => by omega
  | m + 1, i, h1, h2 => by
    rw [L32_0_step]
    by_cases h : i < l.length
    · by_cases hw : wt (l.take i) ≤ M
      · have hx := hl (l.getD i []) (by simp [List.getD, h])
        rw [br_t (by rw [decide_eq_true (by omega), decide_eq_true (by omega)]; rfl), br_t (inB_t ⟨by omega, by omega⟩), Int.toNat_natCast,
          IntWalk.i64_in (1 + ((l.getD i []).length : Int)) ⟨by omega, by omega⟩, IntWalk.i64_in (((wt (l.take i) : Nat) : Int) + (1 + ((l.getD i []).length : Int))) ⟨by omega, by omega⟩, IntWalk.i64_in ((i : Int) + 1) ⟨by omega, by omega⟩]
        have := L32_eq k l M hM hl hn m (i + 1) (by omega) (by omega)
        rw [take_s l i h, wt_append] at this
        have e : wt [l.getD i []] = 1 + (l.getD i []).length := rfl
        rw [e] at this
        rw [show ((wt (l.take i) : Nat) : Int) + (1 + ((l.getD i []).length : Int)) = ((wt (l.take i) + (1 + (l.getD i []).length) : Nat) : Int) by omega, show (i : Int) + 1 = ((i + 1 : Nat) : Int) by omega]
        exact this
      · rw [br_f (by rw [decide_eq_true (by omega), decide_eq_false (by omega)]; rfl)]
        exact ⟨_, _, rfl, Or.inr (by omega)⟩
    · have : i = l.length := by omega
      subst this
      rw [br_f (by rw [decide_eq_false (by omega)]; rfl), List.take_length]
      exact ⟨_, _, rfl, Or.inl rfl⟩

theorem F32_eq (k : Nat) (l : List (List Int)) (M : Nat) (hM : M ≤ 1000000) (hk : M < k) (hl : ∀ x ∈ l, x.length ≤ 140737488355328) : ∃ W : Int, F32 (k + 1) l (M : Int) = some ((W, ()), ()) ∧ (W = wt l ∨ W > M) := by
  rw [F32_step]
  by_cases h : l.length > M
  · rw [br_t (decide_eq_true (by omega)), IntWalk.i64_in _ ⟨by omega, by omega⟩]
    exact ⟨_, rfl, Or.inr (by omega)⟩
  · rw [br_f (decide_eq_false (by omega))]
    obtain ⟨W, i', e, h2⟩ := L32_eq k l M hM hl (by omega) k 0 (by omega) (by omega)
    have e' : L32_0 k l (M : Int) k ((0 : Int), ((0 : Int), ())) = some (.brk (W, (i', ()))) := e
    rw [e', bdL_b]
    exact ⟨W, rfl, h2⟩

theorem next_frame (pre t rest : List Int) (ht : Byt t) (hl : t.length ≤ 65536) : nextS (pre ++ (frame t ++ rest)) ((pre.length : Nat) : Int) = (t, ((pre.length + (frame t).length : Nat) : Int), 0) := by
  unfold nextS
  have hfl := frame_len t
  rw [if_neg (by simp; omega)]
  dsimp only
  rw [Int.toNat_natCast, List.drop_left]
  have g1 : get4 (frame t ++ rest) = t.length := by
    unfold frame; rw [List.append_assoc, List.append_assoc]; exact get_put _ (by omega) _
  have d4 : (frame t ++ rest).drop 4 = put4 (sumN t) ++ (t ++ rest) := by
    unfold frame
    rw [List.append_assoc, List.append_assoc]; rfl
  have g2 : get4 ((frame t ++ rest).drop 4) = sumN t := by rw [d4]; exact get_put _ (sum_lt ht) _
  have d8 : (frame t ++ rest).drop 8 = t ++ rest := by
    unfold frame
    rw [List.append_assoc, List.append_assoc]; rfl
  rw [g1, g2, d8, List.take_left, if_neg (by rw [List.length_append]; omega), if_neg (by omega), if_neg (by rw [List.length_append]; omega), if_neg (fun h => h rfl)]
  rw [hfl]
  congr 2
  omega

theorem next_part (pre t rest : List Int) (hl : t.length ≤ 65536) (n : Nat) (hn : n < (frame t).length) : nextS (pre ++ (frame t ++ rest).take n) ((pre.length : Nat) : Int) = ([], ((pre.length : Nat) : Int), 1) := by
  unfold nextS
  have hfl := frame_len t
  rw [if_neg (by simp; omega)]
  dsimp only
  rw [Int.toNat_natCast, List.drop_left, List.take_append_of_le_length (by omega)]
  by_cases h8 : n < 8
  · rw [if_pos (by rw [List.length_take]; omega)]
  · have g1 : get4 ((frame t).take n) = t.length := by
      have : (frame t).take n = put4 t.length ++ ((put4 (sumN t) ++ t).take (n - 4)) := by
        unfold frame
        rw [List.append_assoc, List.take_append]
        have : (put4 t.length).length = 4 := rfl
        rw [this, List.take_of_length_le (by rw [this]; omega)]
      rw [this]; exact get_put _ (by omega) _
    rw [g1, if_neg (by rw [List.length_take]; omega), if_neg (by omega), if_pos (by rw [List.length_drop, List.length_take]; omega)]

theorem split_cat : ∀ (l : List (List Int)) (pre rest : List Int) (m : Nat) (out : List (List Int)), (∀ x ∈ l, Byt x ∧ x.length ≤ 65536) →
    splitS (pre ++ (cat l ++ rest)) (m + l.length) pre.length out = splitS (pre ++ (cat l ++ rest)) m (pre.length + (cat l).length) (out ++ l)
  | [], pre, rest, m, out, h => by simp [cat]
  | t :: r, pre, rest, m, out, h => by
    have ht := h t List.mem_cons_self
    have hn := next_frame pre t (cat r ++ rest) ht.1 ht.2
    have hfl := frame_len t
    rw [cat, List.append_assoc (frame t)]
    show (if pre.length < (pre ++ (frame t ++ (cat r ++ rest))).length then _ else _) = _
    rw [if_pos (by simp [List.length_append]; omega), hn]
    dsimp only
    rw [if_neg (fun h => h rfl), Int.toNat_natCast]
    have ih := split_cat r (pre ++ frame t) rest m (out ++ [t]) (fun x hx => h x (List.mem_cons_of_mem _ hx))
    rw [List.append_assoc pre, List.length_append] at ih
    rw [List.length_append, ← Nat.add_assoc pre.length]
    rw [List.append_assoc out, List.singleton_append] at ih
    rw [← ih]
    rfl

theorem split_end (b : List Int) (m : Nat) (out : List (List Int)) : splitS b m b.length out = (out, b.length, 0) := by
  cases m with
  | zero => rfl
  | succ m => show (if b.length < b.length then _ else _) = _; rw [if_neg (by omega)]

/-- all frames -/
theorem split_all (l : List (List Int)) (k : Nat) (hk : l.length ≤ k) (h : ∀ x ∈ l, Byt x ∧ x.length ≤ 65536) : splitS (cat l) k 0 [] = (l, (cat l).length, 0) := by
  have := split_cat l [] [] (k - l.length) [] h
  simp only [List.nil_append, List.append_nil, List.length_nil, Nat.zero_add, Nat.sub_add_cancel hk] at this
  rw [this, split_end]

/-- the frames that are whole ahead of a cut -/
def CutAt (l : List (List Int)) (c i w : Nat) : Prop := w ≤ i ∧ (cat (l.take w)).length ≤ c ∧ (w = i ∨ c < (cat (l.take (w + 1))).length)

theorem split_cut (l : List (List Int)) (k c w : Nat) (hk : l.length < k) (h : ∀ x ∈ l, Byt x ∧ x.length ≤ 65536) (hc : c ≤ (cat l).length) (hw : CutAt l c l.length w) :
    splitS ((cat l).take c) k 0 [] = (l.take w, (cat (l.take w)).length, if (cat (l.take w)).length = c then 0 else 1) := by
  have hs : cat l = cat (l.take w) ++ cat (l.drop w) := by rw [← cat_append, List.take_append_drop]
  have ht : ∀ x ∈ l.take w, Byt x ∧ x.length ≤ 65536 := fun x hx => h x (List.mem_of_mem_take hx)
  have hwl : (l.take w).length = w := by rw [List.length_take]; have := hw.1; omega
  by_cases he : (cat (l.take w)).length = c
  · rw [if_pos he, ← he]
    have : (cat l).take (cat (l.take w)).length = cat (l.take w) := by rw [hs, List.take_left]
    rw [this]
    exact split_all _ k (by have := hw.1; rw [hwl]; omega) ht
  · rw [if_neg he]
    have hlt : w < l.length := by
      rcases Nat.lt_or_ge w l.length with h1 | h1
      · exact h1
      · have : w = l.length := by have := hw.1; omega
        rw [this, List.take_length] at he
        have := hw.2.1
        rw [‹w = l.length›, List.take_length] at this
        omega
    have hd : l.drop w = l.getD w [] :: l.drop (w + 1) := getD_dropL l w hlt
    have htk := take_s l w hlt
    generalize hx : l.getD w [] = t at *
    have htt := h t (by rw [← hx]; simp [List.getD, hlt])
    have hc2 : c < (cat (l.take w)).length + (frame t).length := by
      rcases hw.2.2 with h1 | h1
      · omega
      · rw [htk, cat_append] at h1
        simp [cat] at h1
        rw [frame_len] at *
        omega
    have e1 : (cat l).take c = cat (l.take w) ++ (frame t ++ cat (l.drop (w + 1))).take (c - (cat (l.take w)).length) := by
      rw [hs, hd, List.take_append, List.take_of_length_le hw.2.1]
      rfl
    rw [e1]
    have s1 := split_cat (l.take w) [] ((frame t ++ cat (l.drop (w + 1))).take (c - (cat (l.take w)).length)) (k - w) [] ht
    simp only [List.nil_append, List.length_nil, Nat.zero_add] at s1
    rw [hwl, Nat.sub_add_cancel (by have := hw.1; omega)] at s1
    rw [s1]
    have hcl : (cat (l.take w)).length ≤ c := hw.2.1
    have hfl := frame_len t
    have np := next_part (cat (l.take w)) t (cat (l.drop (w + 1))) htt.2 (c - (cat (l.take w)).length) (by omega)
    obtain ⟨m, hm⟩ : ∃ m, k - w = m + 1 := ⟨k - w - 1, by omega⟩
    rw [hm]
    show (if _ < _ then _ else _) = _
    rw [if_pos (by rw [List.length_append, List.length_take, List.length_append]; omega), np]
    dsimp only
    rw [if_pos (by decide)]

theorem cat_take_le (l : List (List Int)) (i : Nat) : (cat (l.take i)).length ≤ (cat l).length := by
  conv => rhs; rw [← List.take_append_drop i l, cat_append, List.length_append]
  omega

theorem L8_eq (k : Nat) (l : List (List Int)) (c : Nat) (hb : ∀ x ∈ l, Byt x ∧ x.length ≤ 3000) (hn : l.length ≤ 3000) (hc : (cat l).length ≤ 24000) (hk : 4000 ≤ k) : ∀ (m i w : Nat), i ≤ l.length → l.length - i < m → CutAt l c i w →
    ∃ w', CutAt l c l.length w' ∧ L8_0 k l (c : Int) m (false, (cat (l.take i), ((w : Int), ((((cat (l.take w)).length : Nat) : Int), ((i : Int), ()))))) =
      some (.brk (false, (cat l, ((w' : Int), ((((cat (l.take w')).length : Nat) : Int), ((l.length : Int), ()))))))
  | 0, i, w, h1, h2, hw => by omega
  | m + 1, i, w, h1, h2, hw => by
    rw [L8_0_step]
    by_cases h : i < l.length
    · have hx := hb (l.getD i []) (by simp [List.getD, h])
      have htk := take_s l i h
      have hle := cat_take_le l (i + 1)
      rw [br_t (decide_eq_true (by omega)), br_t (inB_t ⟨by omega, by omega⟩), Int.toNat_natCast, F15_eq k (l.getD i []) hx.1 (by omega) (by omega), bd_s]
      dsimp only
      have hfl := frame_len (l.getD i [])
      rw [br_f (by rfl), br_t (inB_t ⟨by omega, by omega⟩), IntWalk.i64_in (8 + ((l.getD i []).length : Int)) ⟨by omega, by omega⟩,
        br_f (by simp only [cond_false, bne_eq_false_iff_eq]; omega)]
      have hcat : cat (l.take i) ++ frame (l.getD i []) = cat (l.take (i + 1)) := by rw [htk, cat_append]; simp [cat]
      have hlen : (cat (l.take i)).length + (frame (l.getD i [])).length = (cat (l.take (i + 1))).length := by rw [← hcat, List.length_append]
      rw [br_t (decide_eq_true (by omega)), hcat, IntWalk.i64_in ((i : Int) + 1) ⟨by omega, by omega⟩, show (i : Int) + 1 = ((i + 1 : Nat) : Int) by omega]
      by_cases hle2 : (cat (l.take (i + 1))).length ≤ c
      · rw [br_t (decide_eq_true (by omega))]
        exact L8_eq k l c hb hn hc hk m (i + 1) (i + 1) (by omega) (by omega) ⟨by omega, hle2, .inl rfl⟩
      · rw [br_f (decide_eq_false (by omega))]
        refine L8_eq k l c hb hn hc hk m (i + 1) w (by omega) (by omega) ⟨by have := hw.1; omega, hw.2.1, .inr ?_⟩
        rcases hw.2.2 with h3 | h3
        · rw [h3]; omega
        · exact h3
    · have : i = l.length := by omega
      subst this
      rw [br_f (decide_eq_false (by omega)), List.take_length]
      exact ⟨w, hw, rfl⟩

/-- the loop's run, and what comes behind it -/
theorem F8_tail (k : Nat) (l : List (List Int)) (c : Nat) (w : Nat) (hk : 40000 ≤ k) (hb : ∀ x ∈ l, Byt x ∧ x.length ≤ 3000) (hn : l.length ≤ 3000) (hc : (cat l).length ≤ 24000) (hcl : c ≤ (cat l).length) (hw : CutAt l c l.length w) :
    F28 (k + 1) ((cat l).take c) = some (((l.take w, ((((cat (l.take w)).length : Nat) : Int), (if (cat (l.take w)).length = c then (0 : Int) else 1, ())))), ()) ∧
    F31 (k + 1) (l.take w) (l.take w) = some ((true, ()), ()) := by
  have hby : Byt (cat l) := cat_byt (fun x hx => (hb x hx).1)
  have hs := split_cut l k c w (by omega) (fun x hx => ⟨(hb x hx).1, by have := (hb x hx).2; omega⟩) hcl hw
  constructor
  · rw [F28_eq k _ (hby.take c) (by rw [List.length_take]; omega) (by rw [List.length_take]; omega)]
    unfold splitR
    rw [hs]
  · have hl : (l.take w).length ≤ l.length := by rw [List.length_take]; omega
    rw [F31_eq k _ _ (by omega) (by omega) (fun x hx => by have := (hb x (List.mem_of_mem_take hx)).2; exact ⟨by omega, by omega⟩), decide_eq_true rfl]

theorem F8_all (k : Nat) (l : List (List Int)) (hk : 40000 ≤ k) (hb : ∀ x ∈ l, Byt x ∧ x.length ≤ 3000) (hn : l.length ≤ 3000) (hc : (cat l).length ≤ 24000) :
    F28 (k + 1) (cat l) = some (((l, ((((cat l).length : Nat) : Int), ((0 : Int), ())))), ()) ∧ F31 (k + 1) l l = some ((true, ()), ()) := by
  have hby : Byt (cat l) := cat_byt (fun x hx => (hb x hx).1)
  constructor
  · rw [F28_eq k _ hby (by omega) (by omega)]
    unfold splitR
    rw [split_all l k (by omega) (fun x hx => ⟨(hb x hx).1, by have := (hb x hx).2; omega⟩)]
  · rw [F31_eq k _ _ (by omega) (by omega) (fun x hx => by have := (hb x hx).2; exact ⟨by omega, by omega⟩), decide_eq_true rfl]

theorem F8_eq (l : List (List Int)) (n : Int) (hl : ∀ x ∈ l, Byt x ∧ x.length ≤ 140737488355328) : F8 80000 l n = some ((true, ()), ()) := by
  rw [F8_step 79999, F14_eq 79899, bd_s]
  dsimp only
  rw [br_f (by rfl)]
  obtain ⟨W, eW, hW⟩ := F32_eq 79998 l 3000 (by omega) (by omega) (fun x hx => (hl x hx).2)
  have eW' : F32 79999 l (3000 : Int) = some ((W, ()), ()) := eW
  rw [eW', bd_s]
  dsimp only
  by_cases h3 : W > 3000
  · rw [br_t (decide_eq_true h3)]
  · rw [br_f (decide_eq_false h3)]
    have hwt : wt l ≤ 3000 := by omega
    have hwl := wt_len l
    have hcl := cat_len l
    have hb : ∀ x ∈ l, Byt x ∧ x.length ≤ 3000 := fun x hx => ⟨(hl x hx).1, by have := hwl.2 x hx; omega⟩
    have hn : l.length ≤ 3000 := by omega
    have hc : (cat l).length ≤ 24000 := by omega
    have hall := F8_all 79998 l (by omega) hb hn hc
    have h00 : ∀ c, CutAt l c 0 0 := fun c => ⟨Nat.le_refl _, Nat.zero_le _, .inl rfl⟩
    have e28 : F28 79999 (cat l) = _ := hall.1
    have e31 : F31 79999 l l = _ := hall.2
    by_cases hneg : n < 0
    · rw [br_t (decide_eq_true hneg)]
      obtain ⟨w, hw, ew⟩ := L8_eq 79999 l 0 hb hn hc (by omega) 79999 0 0 (by omega) (by omega) (h00 0)
      have ew' : L8_0 79999 l (0 : Int) 79999 (false, (([] : List Int), ((0 : Int), ((0 : Int), ((0 : Int), ()))))) = _ := ew
      have ht := F8_tail 79998 l 0 w (by omega) hb hn hc (by omega) hw
      have hwl := hw.1
      have hw0 : (cat (l.take w)).length = 0 := by have := hw.2.1; omega
      rw [ew', bdL_b]
      dsimp only
      rw [e28, bd_s]
      dsimp only
      rw [e31, bd_s]
      dsimp only
      rw [br_f (by simp), List.drop_zero]
      have e28' : F28 79999 ((cat l).take 0) = _ := ht.1
      rw [e28', bd_s]
      dsimp only
      rw [hw0, if_pos rfl, br_t (by rfl), br_t (by simp [leB]; omega), Int.toNat_natCast]
      have e31' : F31 79999 (l.take w) (l.take w) = _ := ht.2
      rw [e31', bd_s]
      rfl
    · rw [br_f (decide_eq_false hneg)]
      obtain ⟨c, rfl⟩ : ∃ c : Nat, n = (c : Int) := ⟨n.toNat, by omega⟩
      obtain ⟨w, hw, ew⟩ := L8_eq 79999 l c hb hn hc (by omega) 79999 0 0 (by omega) (by omega) (h00 c)
      have ew' : L8_0 79999 l (c : Int) 79999 (false, (([] : List Int), ((0 : Int), ((0 : Int), ((0 : Int), ()))))) = _ := ew
      have hwl := hw.1
      rw [ew', bdL_b]
      dsimp only
      rw [e28, bd_s]
      dsimp only
      rw [e31, bd_s]
      dsimp only
      rw [br_f (by simp), List.drop_zero]
      by_cases hbig : (c : Int) > ((cat l).length : Int)
      · rw [br_t (decide_eq_true hbig), br_t (by simp [leB]), Int.toNat_natCast, Nat.sub_zero]
        have hw2 : CutAt l (cat l).length l.length w := by
          refine ⟨hw.1, cat_take_le l w, ?_⟩
          rcases hw.2.2 with h4 | h4
          · exact .inl h4
          · have := cat_take_le l (w + 1); omega
        have ht := F8_tail 79998 l (cat l).length w (by omega) hb hn hc (by omega) hw2
        have e28' : F28 79999 ((cat l).take (cat l).length) = _ := ht.1
        have e31' : F31 79999 (l.take w) (l.take w) = _ := ht.2
        rw [e28', bd_s]
        dsimp only
        by_cases hq : (cat (l.take w)).length = (cat l).length
        · rw [if_pos hq, br_t (by simp; omega), br_t (by simp [leB]; omega), Int.toNat_natCast, e31', bd_s]
          simp
        · rw [if_neg hq, br_f (by simp; omega), br_t (by simp [leB]; omega), Int.toNat_natCast, e31', bd_s]
          simp
      · rw [br_f (decide_eq_false hbig), br_t (by simp [leB]; omega), Int.toNat_natCast, Nat.sub_zero]
        have ht := F8_tail 79998 l c w (by omega) hb hn hc (by omega) hw
        have e28' : F28 79999 ((cat l).take c) = _ := ht.1
        have e31' : F31 79999 (l.take w) (l.take w) = _ := ht.2
        rw [e28', bd_s]
        dsimp only
        by_cases hq : (cat (l.take w)).length = c
        · rw [if_pos hq, br_t (by simp; omega), br_t (by simp [leB]; omega), Int.toNat_natCast, e31', bd_s]
          simp
        · rw [if_neg hq, br_f (by simp; omega), br_t (by simp [leB]; omega), Int.toNat_natCast, e31', bd_s]
          simp

/-! what stands behind frames -/

theorem next_shift (p b : List Int) (a : Nat) (ha : a ≤ b.length) : nextS (p ++ b) ((p.length + a : Nat) : Int) = ((nextS b (a : Int)).1, (p.length : Int) + (nextS b (a : Int)).2.1, (nextS b (a : Int)).2.2) := by
  unfold nextS
  rw [if_neg (show ¬ (((p.length + a : Nat) : Int) < 0 ∨ ((p.length + a : Nat) : Int) > ((p ++ b).length : Int)) by rw [List.length_append]; omega), if_neg (show ¬ ((a : Int) < 0 ∨ (a : Int) > (b.length : Int)) by omega)]
  dsimp only
  rw [Int.toNat_natCast, Int.toNat_natCast, List.drop_append, List.drop_of_length_le (by omega), List.nil_append, show p.length + a - p.length = a by omega]
  generalize b.drop a = rest
  generalize get4 rest = n
  generalize get4 (rest.drop 4) = g
  generalize (rest.drop 8).take n = body
  generalize sumN body = s
  by_cases h1 : rest.length < 8
  · rw [if_pos h1, if_pos h1]; simp
  rw [if_neg h1, if_neg h1]
  by_cases h2 : n > 65536
  · rw [if_pos h2, if_pos h2]; simp
  rw [if_neg h2, if_neg h2]
  by_cases h3 : n > (rest.drop 8).length
  · rw [if_pos h3, if_pos h3]; simp
  rw [if_neg h3, if_neg h3]
  by_cases h4 : s ≠ g
  · rw [if_pos h4, if_pos h4]; simp
  rw [if_neg h4, if_neg h4]
  simp only [Prod.mk.injEq, true_and, and_true]
  omega

theorem split_shift (p b : List Int) (pre : List (List Int)) : ∀ (m a : Nat) (out : List (List Int)), a ≤ b.length →
    splitS (p ++ b) m (p.length + a) (pre ++ out) = (pre ++ (splitS b m a out).1, p.length + (splitS b m a out).2.1, (splitS b m a out).2.2)
  | 0, a, out, ha => rfl
  | m + 1, a, out, ha => by
    have e1 : splitS (p ++ b) (m + 1) (p.length + a) (pre ++ out) = (if p.length + a < (p ++ b).length then
      (if (nextS (p ++ b) ((p.length + a : Nat) : Int)).2.2 ≠ 0 then (pre ++ out, p.length + a, (nextS (p ++ b) ((p.length + a : Nat) : Int)).2.2) else splitS (p ++ b) m (nextS (p ++ b) ((p.length + a : Nat) : Int)).2.1.toNat ((pre ++ out) ++ [(nextS (p ++ b) ((p.length + a : Nat) : Int)).1]))
      else (pre ++ out, p.length + a, 0)) := rfl
    have e2 : splitS b (m + 1) a out = (if a < b.length then
      (if (nextS b (a : Int)).2.2 ≠ 0 then (out, a, (nextS b (a : Int)).2.2) else splitS b m (nextS b (a : Int)).2.1.toNat (out ++ [(nextS b (a : Int)).1]))
      else (out, a, 0)) := rfl
    rw [e1, e2, next_shift p b a ha, List.length_append]
    have hok := @next_ok b a
    generalize nextS b (a : Int) = r at *
    obtain ⟨t, to, e⟩ := r
    dsimp only at hok ⊢
    by_cases h : a < b.length
    · rw [if_pos (by omega), if_pos h]
      by_cases he : e ≠ 0
      · rw [if_pos he, if_pos he]
      · rw [if_neg he, if_neg he]
        obtain ⟨n, q1, q2, q3⟩ := hok (by omega)
        subst q1
        have ih := split_shift p b pre m (a + 8 + n) (out ++ [t]) q2
        rw [Int.toNat_natCast, show ((p.length : Int) + ((a + 8 + n : Nat) : Int)).toNat = p.length + (a + 8 + n) by omega, List.append_assoc]
        exact ih
    · rw [if_neg (by omega), if_neg h]

theorem split_fuel (b : List Int) : ∀ (m a : Nat) (out : List (List Int)), a ≤ b.length → b.length - a < m → splitS b (m + 1) a out = splitS b m a out
  | 0, a, out, _, h => by omega
  | m + 1, a, out, ha, h => by
    have e1 : ∀ m, splitS b (m + 1) a out = (if a < b.length then
      (if (nextS b (a : Int)).2.2 ≠ 0 then (out, a, (nextS b (a : Int)).2.2) else splitS b m (nextS b (a : Int)).2.1.toNat (out ++ [(nextS b (a : Int)).1]))
      else (out, a, 0)) := fun m => rfl
    rw [e1 (m + 1), e1 m]
    have hok := @next_ok b a
    generalize nextS b (a : Int) = r at *
    obtain ⟨t, to, e⟩ := r
    dsimp only at hok ⊢
    by_cases hlt : a < b.length
    · rw [if_pos hlt, if_pos hlt]
      by_cases he : e ≠ 0
      · rw [if_pos he, if_pos he]
      · rw [if_neg he, if_neg he]
        obtain ⟨n, q1, q2, q3⟩ := hok (by omega)
        subst q1
        rw [Int.toNat_natCast]
        exact split_fuel b m (a + 8 + n) _ q2 (by omega)
    · rw [if_neg hlt, if_neg hlt]

theorem split_fuel' (b : List Int) (a : Nat) (out : List (List Int)) (ha : a ≤ b.length) : ∀ (j m : Nat), b.length - a < m → splitS b (m + j) a out = splitS b m a out
  | 0, m, h => rfl
  | j + 1, m, h => by rw [← Nat.add_assoc, split_fuel b (m + j) a out ha (by omega), split_fuel' b a out ha j m h]

/-- split of frames and what stands behind them -/
theorem split_behind (l : List (List Int)) (b : List Int) (k : Nat) (hk : l.length + b.length < k) (h : ∀ x ∈ l, Byt x ∧ x.length ≤ 65536) :
    splitS (cat l ++ b) k 0 [] = (l ++ (splitS b k 0 []).1, (cat l).length + (splitS b k 0 []).2.1, (splitS b k 0 []).2.2) := by
  have s1 := split_cat l [] b (k - l.length) [] h
  simp only [List.nil_append, List.length_nil, Nat.zero_add, Nat.sub_add_cancel (show l.length ≤ k by omega)] at s1
  rw [s1]
  have s2 := split_shift (cat l) b l (k - l.length) 0 [] (by omega)
  rw [Nat.add_zero, List.append_nil] at s2
  rw [s2]
  have s3 := split_fuel' b 0 [] (by omega) l.length (k - l.length) (by omega)
  rw [Nat.sub_add_cancel (show l.length ≤ k by omega)] at s3
  rw [s3]

theorem L9_eq (k : Nat) (l : List (List Int)) (hb : ∀ x ∈ l, Byt x ∧ x.length ≤ 3000) (hn : l.length ≤ 3000) (hc : (cat l).length ≤ 24000) (hk : 4000 ≤ k) : ∀ (m i : Nat), i ≤ l.length → l.length - i < m →
    L9_0 k l m (cat (l.take i), ((i : Int), ())) = some (.brk (cat l, ((l.length : Int), ())))
  | 0, i, h1, h2 => by omega
  | m + 1, i, h1, h2 => by
    rw [L9_0_step]
    by_cases h : i < l.length
    · have hx := hb (l.getD i []) (by simp [List.getD, h])
      have htk := take_s l i h
      have hle := cat_take_le l (i + 1)
      rw [br_t (decide_eq_true (by omega)), br_t (inB_t ⟨by omega, by omega⟩), Int.toNat_natCast, F15_eq k (l.getD i []) hx.1 (by omega) (by omega), bd_s]
      dsimp only
      have hfl := frame_len (l.getD i [])
      have hcat : cat (l.take i) ++ frame (l.getD i []) = cat (l.take (i + 1)) := by rw [htk, cat_append]; simp [cat]
      have hlen : (cat (l.take i)).length + (frame (l.getD i [])).length = (cat (l.take (i + 1))).length := by rw [← hcat, List.length_append]
      rw [br_t (decide_eq_true (by omega)), hcat, IntWalk.i64_in ((i : Int) + 1) ⟨by omega, by omega⟩, show (i : Int) + 1 = ((i + 1 : Nat) : Int) by omega]
      exact L9_eq k l hb hn hc hk m (i + 1) (by omega) (by omega)
    · have : i = l.length := by omega
      subst this
      rw [br_f (decide_eq_false (by omega)), List.take_length]

theorem next_to (b : List Int) : 0 ≤ (nextS b 0).2.1 ∧ (nextS b 0).2.1 ≤ b.length := by
  by_cases h : (nextS b ((0 : Nat) : Int)).2.2 = 0
  · obtain ⟨n, h1, h2, _⟩ := next_ok h
    have h1' : (nextS b 0).2.1 = ((0 + 8 + n : Nat) : Int) := h1
    rw [h1']; omega
  · have : (nextS b 0).2.1 = 0 := by
      unfold nextS at h ⊢
      rw [if_neg (by omega)] at h ⊢
      dsimp only at h ⊢
      rw [Int.toNat_natCast] at h
      have e0 : (0 : Int).toNat = 0 := rfl
      rw [e0]
      generalize b.drop 0 = rest at *
      generalize get4 rest = n at *
      generalize get4 (rest.drop 4) = g at *
      generalize (rest.drop 8).take n = body at *
      generalize sumN body = s at *
      by_cases h1 : rest.length < 8
      · rw [if_pos h1]
      rw [if_neg h1] at h ⊢
      by_cases h2 : n > 65536
      · rw [if_pos h2]
      rw [if_neg h2] at h ⊢
      by_cases h3 : n > (rest.drop 8).length
      · rw [if_pos h3]
      rw [if_neg h3] at h ⊢
      by_cases h4 : s ≠ g
      · rw [if_pos h4]
      rw [if_neg h4] at h
      exact absurd rfl h
    rw [this]; omega

theorem F9_eq (l : List (List Int)) (b : List Int) (hl : ∀ x ∈ l, Byt x ∧ x.length ≤ 140737488355328) (hbb : Byt b) : F9 80000 l b = some ((true, ()), ()) := by
  rw [F9_step 79999, F14_eq 79899, bd_s]
  dsimp only
  rw [br_f (by rfl)]
  obtain ⟨W, eW, hW⟩ := F32_eq 79998 l 2000 (by omega) (by omega) (fun x hx => (hl x hx).2)
  have eW' : F32 79999 l (2000 : Int) = some ((W, ()), ()) := eW
  rw [eW', bd_s]
  dsimp only
  by_cases h3 : W > 2000 ∨ b.length > 2000
  · rw [br_t]
    by_cases h4 : W > 2000
    · rw [decide_eq_true h4]; rfl
    · rw [decide_eq_false h4]; exact decide_eq_true (by omega)
  · rw [br_f (by rw [decide_eq_false (by omega)]; exact decide_eq_false (by omega))]
    have hwt : wt l ≤ 3000 := by omega
    have hwl := wt_len l
    have hcl := cat_len l
    have hb : ∀ x ∈ l, Byt x ∧ x.length ≤ 3000 := fun x hx => ⟨(hl x hx).1, by have := hwl.2 x hx; omega⟩
    have hn : l.length ≤ 3000 := by omega
    have hc : (cat l).length ≤ 24000 := by omega
    have hbl : b.length ≤ 2000 := by omega
    have hcb : Byt (cat l) := cat_byt (fun x hx => (hb x hx).1)
    have e9 : L9_0 79999 l 79999 (([] : List Int), ((0 : Int), ())) = _ := L9_eq 79999 l hb hn hc (by omega) 79999 0 (by omega) (by omega)
    rw [e9, bdL_b]
    dsimp only
    have happ : (cat l ++ b).length = (cat l).length + b.length := List.length_append
    have q1 : F16 79999 (cat l ++ b) ((cat l).length : Int) = _ := F16_eq 79999 (cat l ++ b) ((cat l).length : Int) (hcb.append hbb) (by omega) (by omega)
    have q2 := F16_eq 79999 b 0 hbb (by omega) (by omega)
    have q3 : F28 79999 (cat l ++ b) = _ := F28_eq 79998 (cat l ++ b) (hcb.append hbb) (by omega) (by omega)
    have q4 : F28 79999 b = _ := F28_eq 79998 b hbb (by omega) (by omega)
    have hns : nextS (cat l ++ b) ((cat l).length : Int) = _ := next_shift (cat l) b 0 (by omega)
    have hss := split_behind l b 79998 (by omega) (fun x hx => ⟨(hb x hx).1, by have := (hb x hx).2; omega⟩)
    have hsl := split_len b 79998 0 [] (by omega) (by simp) (by simp)
    have hnl := next_len b 0
    have hnt := next_to b
    unfold splitR at q3 q4
    rw [hns] at q1
    rw [hss] at q3
    rw [show ((0 : Nat) : Int) = 0 from rfl] at q1
    generalize nextS b 0 = r at *
    generalize splitS b 79998 0 [] = sp at *
    obtain ⟨t, to, e⟩ := r
    obtain ⟨s1, s2, s3⟩ := sp
    dsimp only at *
    rw [br_t (decide_eq_true (by omega)), q1, bd_s, q2, bd_s, q3, bd_s, q4, bd_s]
    dsimp only
    rw [F20_eq 79998 t t (by omega) (by omega), bd_s]
    rw [IntWalk.i64_in (((cat l).length : Int) + to) ⟨by omega, by omega⟩, IntWalk.i64_in ((l.length : Int) + (s1.length : Int)) ⟨by omega, by omega⟩, IntWalk.i64_in (((cat l).length : Int) + (s2 : Int)) ⟨by omega, by omega⟩]
    simp

end Go.Proofs.Ytnffdeokhcojfaa.E
