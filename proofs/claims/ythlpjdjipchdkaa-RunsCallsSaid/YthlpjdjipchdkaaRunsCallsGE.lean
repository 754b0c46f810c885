/- A plain evaluator of the program's form on data by value, and the proof that it is sound. No condition. -/
import Derived.Test.YthlpjdjipchdkaaRunsCallsGD
import Derived.Calls
import Derived.Laws.AppendOwn
import Derived.Laws.Strings
import Derived.Laws.StructEq
import Derived.Laws.MakeOwn
import Derived.Laws.BytesArg
import Derived.Lib.ConvBytes
import Derived.Laws.Tables
import Derived.Laws.NewFold
import Derived.WideKeyRuns
import Derived.MapKept
import Derived.Orders
import Derived.ProofKit
import Derived.SizedLaws
import Derived.Lib.AppendZerosOnto
import Derived.Lib.Overlaps
import Derived.Laws.Externs
import Derived.Laws.IdiomCopy
import Derived.Deep.AppendSrc
import Derived.Shelf.RegionOpenPlain
import Derived.WalkKit
import Derived.Lib.Walk
import Derived.Lib.SliceRun
import Derived.Lib.JoinLaws
import Derived.Lib.Bytealg

namespace Go.Proofs.Ythlpjdjipchdkaa.E
open Go Go.Proofs Go.Shelf Go.RowKit Go.Lib
set_option linter.unusedSimpArgs false
set_option linter.unusedVariables false
theorem wp_copy_R {P : Program} (w : World) {o : Oper} {a : Act} {K : Act → World → Prop} {Q : Exit → Act → World → Prop} (d s : Operand) (t t' : TypeId)
    (ho : o.op = .call { callee := .builtin .copy, args := #[d, s], argTypes := #[t, t'] }) (v u : Value) (hd : a.eval d = v) (hs : a.eval s = u) {v' : Value} {w' : World}
    (hr : (Builtin.copy_ #[t, t'] o.type #[v, u]).run P w = .ok v' w') (h : K (a.put o.dst v') w') : o.wp P a w K Q := by
  unfold Oper.wp execOp
  simp only [ho, resolve, invoke, builtin, Sem.run_bind, Sem.run_pure, Result.andThen_ok, List.map_toArray, List.map_cons, List.map_nil, hd, hs, hr]
  exact h
theorem wpList_copy_R {P : Program} (w : World) {ops : Array Oper} {rest : List Oper} {o : Oper} {a : Act} {Q : Exit → Act → World → Prop} (hgd : o.guard = none) (d s : Operand) (t t' : TypeId)
    (ho : o.op = .call { callee := .builtin .copy, args := #[d, s], argTypes := #[t, t'] }) (v u : Value) (hd : a.eval d = v) (hs : a.eval s = u) {v' : Value} {w' : World}
    (hr : (Builtin.copy_ #[t, t'] o.type #[v, u]).run P w = .ok v' w') (h : wpList P ops Q rest (a.put o.dst v') w') : wpList P ops Q (o :: rest) a w :=
  wpList_plain hgd fun _ hK => wp_copy_R w d s t t' ho v u hd hs hr (hK _ _ h)
theorem step_copy_R {P : Program} {ops : Array Oper} {o : Oper} {a : Act} {w : World} {K : Act → World → Prop} {Q : Exit → Act → World → Prop} {E : Prop}
    (hg : o.guard = none) (d x : Operand) (dT sT : TypeId) (hop : o.op = Op.call { callee := Callee.builtin Builtin.copy, args := #[d, x], argTypes := #[dT, sT] })
    (v u : Value) (hd : a.eval d = v) (hx : a.eval x = u) {v' : Value} {w' : World} (hr : (Builtin.copy_ #[dT, sT] o.type #[v, u]).run P w = .ok v' w') (hK : K (a.put o.dst v') w') :
    if Region.wanted o (yielded ops a.tmps) = true then Oper.wp P o a w K Q else E := by
  have hw : Region.wanted o (yielded ops a.tmps) = true := by simp [Region.wanted, hg]
  rw [if_pos hw]
  unfold Oper.wp
  simp [execOp, hop, resolve, invoke, builtin, hd, hx, hr, Result.andThen]
  exact hK
def ctxP (P : Program) : Ctx where
  P := P
  T := fun _ => none
  h := fun _ => none
  n := 0
  L := fun _ => False
  I := fun _ => False
  X := fun _ => False
  z := (World.os default, #[])
  G := fun _ => none
  tk := []
  Iok := fun _ h => h.elim
  Lok := fun _ h => h.elim
  ok := fun _ _ h => by cases h
  eqs := fun _ _ h => by cases h
  zag := fun _ _ h => by cases h
  gok := fun _ _ h => by cases h
structure ElT (P : Program) (tS e : TypeId) (sz bytes : Nat) : Prop where
  und : P.underlying tS = some (.slice e)
  info : ∃ i z, P.info? e = some i ∧ i.zero = some z ∧ i.size = sz ∧ i.bytes = bytes ∧ z.cells.size = sz ∧ z.cells.toList.all (·.oneCell') = true
  pos : 0 < sz
  bpos : 0 < bytes
section
variable {P : Program} {w : World} {tS e : TypeId} {sz bytes : Nat}
theorem ElT.size (h : ElT P tS e sz bytes) (w : World) : (sizeOf e).run P w = .ok sz w := by
  obtain ⟨i, z, h1, _, h3, _⟩ := h.info
  simp [sizeOf, typeInfo, h1, h3]
def Blk (w : World) (b : Nat) (l : List Value) (E : TypeId) : Prop := hpOf w b = some (.cells l.toArray E (0, 0))
structure Only1 (w w' : World) (b : Nat) : Prop where
  frame : ∀ k, k ≠ b → hpOf w' k = hpOf w k
  size : w'.heap.size = w.heap.size
  rest : restOf w' = restOf w
theorem run_storeL {b o : Nat} {l vs : List Value} {E : TypeId} (hb : Blk w b l E) (ho : o + vs.length ≤ l.length) (h1 : ∀ v ∈ vs, v.oneCell' = true) :
    ∃ w', (storeCells ⟨b, o, none⟩ vs).run P w = .ok () w' ∧ Blk w' b (l.take o ++ vs ++ l.drop (o + vs.length)) E ∧ Only1 w w' b := by
  obtain ⟨w', arr', g1, g2, g3, g4, g5, g6, g7⟩ := run_store_cells (C := ctxP P) (b := b) (o := o) (E := E) (fr := (0, 0)) vs 0 l.toArray w hb (.inl rfl) (by simpa using ho) h1
  refine ⟨w', g1, ?_, ⟨g5, g6, g7⟩⟩
  unfold Blk
  rw [g2]
  simp only [Nat.add_zero] at g4
  rw [← g4]
theorem run_loadL {b o n : Nat} {l : List Value} {E : TypeId} (hb : Blk w b l E) (hn : o + n ≤ l.length) :
    (loadCells ⟨b, o, none⟩ n).run P w = .ok ((l.drop o).take n).toArray w := by
  have h2 : (loadCells ⟨b, o, none⟩ n).run P w = .ok ((l.toArray.toList.drop o).take n).toArray w := run_cells (C := ctxP P) (o := o) (n := n) hb (by simpa using hn)
  simpa using h2
theorem run_copyL (h : ElT P tS e sz bytes) {ty : TypeId} {b o n c bs os n2 c2 k : Nat} {l ls : List Value} {E Es : TypeId} (hk : Nat.min n2 n = k) (hb : Blk w b l E) (ho : o + k * sz ≤ l.length)
    (hbs : Blk w bs ls Es) (hos : os + k * sz ≤ ls.length) (h1 : ∀ v ∈ (ls.drop os).take (k * sz), v.oneCell' = true) :
    ∃ w', (∀ ty t2, (Builtin.copy_ #[tS, t2] ty #[.slice (some ⟨b, o, none⟩) n c, .slice (some ⟨bs, os, none⟩) n2 c2]).run P w = .ok (goInt (k : Int)) w') ∧
      Blk w' b (l.take o ++ (ls.drop os).take (k * sz) ++ l.drop (o + k * sz)) E ∧ Only1 w w' b := by
  have hlen : ((ls.drop os).take (k * sz)).length = k * sz := by simp; omega
  obtain ⟨w', g1, g2, g3⟩ := run_storeL (P := P) (o := o) hb (by rw [hlen]; exact ho) h1
  rw [hlen] at g2
  refine ⟨w', fun ty t2 => ?_, g2, g3⟩
  have hl := run_loadL (P := P) hbs hos
  simp [Builtin.copy_, run_underlying h.und, h.size, Builtin.lenOf, Builtin.firstCells, hk, hl, g1]
theorem run_app_roomL (h : ElT P tS e sz bytes) {b o n c bs os m c2 : Nat} {l ls : List Value} {E Es : TypeId} (hroom : n + m ≤ c) (hb : Blk w b l E) (ho : o + c * sz ≤ l.length)
    (hbs : Blk w bs ls Es) (hos : os + m * sz ≤ ls.length) (h1 : ∀ v ∈ (ls.drop os).take (m * sz), v.oneCell' = true) :
    ∃ w', (∀ ty, (Builtin.append_ #[tS, tS] ty #[.slice (some ⟨b, o, none⟩) n c, .slice (some ⟨bs, os, none⟩) m c2]).run P w = .ok (.slice (some ⟨b, o, none⟩) (n + m) c) w') ∧
      Blk w' b (l.take (o + n * sz) ++ (ls.drop os).take (m * sz) ++ l.drop (o + n * sz + m * sz)) E ∧ Only1 w w' b := by
  have hle : n * sz + m * sz ≤ c * sz := by rw [← Nat.add_mul]; exact Nat.mul_le_mul_right _ hroom
  have hlen : ((ls.drop os).take (m * sz)).length = m * sz := by simp; omega
  obtain ⟨w', g1, g2, g3⟩ := run_storeL (P := P) (o := o + n * sz) hb (by rw [hlen]; omega) h1
  rw [hlen] at g2
  refine ⟨w', fun ty => ?_, g2, g3⟩
  have hl := run_loadL (P := P) hbs hos
  simp [Builtin.append_, run_underlying h.und, h.size, Builtin.lenOf, Builtin.firstCells, hroom, hl, addr_add, g1]
structure New1 (w w' : World) : Prop where
  frame : ∀ k, k < w.heap.size → hpOf w' k = hpOf w k
  size : w'.heap.size = w.heap.size + 1
  rest : restOf w' = restOf w
theorem first_cells {a : Option Addr} {n c : Nat} {cs : List Value} (hlen : cs.length = n * sz) (h : (n = 0) ∨ ∃ b o l E, a = some ⟨b, o, none⟩ ∧ Blk w b l E ∧ o + n * sz ≤ l.length ∧ (l.drop o).take (n * sz) = cs) {w' : World} (hw : w'.heap = w.heap) :
    (Builtin.firstCells sz n (.slice a n c)).run P w' = .ok cs.toArray w' := by
  rcases h with rfl | ⟨b, o, l, E, rfl, hb, ho, he⟩
  · have : cs = [] := by apply List.length_eq_zero_iff.1; simpa using hlen
    subst this
    cases a with
    | none => simp [Builtin.firstCells]
    | some a =>
      have hl := run_loadCells_list (P := P) w' a [] (by simp)
      simp only [List.length_nil] at hl
      simp [Builtin.firstCells, hl]
  · have hb' : Blk w' b l E := by unfold Blk hpOf at hb ⊢; rw [hw]; exact hb
    have hl := run_loadL (P := P) hb' ho
    simp [Builtin.firstCells, hl, he]
theorem run_app_growL (h : ElT P tS e sz bytes) {a : Option Addr} {n c bs os m c2 : Nat} {cs ls : List Value} {Es : TypeId} (hroom : c < n + m) (hfit : (n + m) * bytes ≤ 140737488355328) (hcl : cs.length = n * sz)
    (ha : (n = 0) ∨ ∃ b o l E, a = some ⟨b, o, none⟩ ∧ Blk w b l E ∧ o + n * sz ≤ l.length ∧ (l.drop o).take (n * sz) = cs)
    (hbs : Blk w bs ls Es) (hos : os + m * sz ≤ ls.length) (h1 : ∀ v ∈ (ls.drop os).take (m * sz), v.oneCell' = true) :
    ∃ w' G l', (∀ ty, (Builtin.append_ #[tS, tS] ty #[.slice a n c, .slice (some ⟨bs, os, none⟩) m c2]).run P w = .ok (.slice (some ⟨w.heap.size, 0, none⟩) (n + m) G) w') ∧ n + m ≤ G ∧
      Blk w' w.heap.size (cs ++ (ls.drop os).take (m * sz) ++ l') e ∧ l'.length = (G - (n + m)) * sz ∧ New1 w w' := by
  obtain ⟨i, z, hi, hz, hs, hby, hzs, _⟩ := h.info
  have hlen : ((ls.drop os).take (m * sz)).length = m * sz := by simp; omega
  have hsrc : Go.Src P i.size tS (.slice (some ⟨bs, os, none⟩) m c2) m ((ls.drop os).take (m * sz)) w := by
    refine Go.Src.ofSlice w h.und ⟨bs, os, none⟩ m c2 _ (by rw [hlen, hs]) (fun j u hj => ?_) h1
    rw [addr_add, cell_at hbs]
    rw [List.getElem?_take] at hj
    split at hj
    · rw [List.getElem?_drop] at hj; simpa using hj
    · cases hj
  have hold : (Builtin.firstCells i.size n (.slice a n c)).run P w.drew = .ok cs.toArray w.drew := by
    rw [hs]; exact first_cells hcl ha rfl
  have hb0 : 1 ≤ bytes := h.bpos
  have hnm : n + m ≤ 140737488355328 := by
    refine Nat.le_trans ?_ hfit
    exact Nat.le_mul_of_pos_right _ hb0
  refine ⟨_, grownCap w (n + m) c e, (Builtin.zeroCells z.cells (grownCap w (n + m) c e - (n + m))).toList, fun ty => run_append_grow_src w tS tS ty e i z h.und hi hz a n c cs hold _ m _ hsrc hroom (by omega) (by rw [hby]; exact growslice_fits hroom hfit), grownCap_ge w _ _ _, ?_, ?_, ?_⟩
  · have := (hp_alloc (w := w.drew) (.cells ((cs ++ (ls.drop os).take (m * sz)).toArray ++ Builtin.zeroCells z.cells (grownCap w (n + m) c e - (n + m))) e)).1
    unfold Blk
    rw [show w.drew.heap.size = w.heap.size from rfl] at this
    rw [this]
    congr 2
    apply Array.ext'
    simp [List.append_assoc]
  · rw [Array.length_toList, size_zeroCells, hzs]
  · have := hp_alloc (w := w.drew) (.cells ((cs ++ (ls.drop os).take (m * sz)).toArray ++ Builtin.zeroCells z.cells (grownCap w (n + m) c e - (n + m))) e)
    exact ⟨this.2.1, this.2.2, rfl⟩
theorem run_zeros_growL (h : ElT P tS e sz bytes) {tI : TypeId} (hI : P.underlying tI = some (.int .i64)) {a : Option Addr} {n c k : Nat} {cs : List Value} (hk : 0 < k) (hroom : c < n + k) (hfit : (n + k) * bytes ≤ 140737488355328) (hcl : cs.length = n * sz)
    (ha : (n = 0) ∨ ∃ b o l E, a = some ⟨b, o, none⟩ ∧ Blk w b l E ∧ o + n * sz ≤ l.length ∧ (l.drop o).take (n * sz) = cs) :
    ∃ w' G l', (∀ ty, (Builtin.append_ #[tS, tI] ty #[.slice a n c, .int .i64 (k : Int)]).run P w = .ok (.slice (some ⟨w.heap.size, 0, none⟩) (n + k) G) w') ∧ n + k ≤ G ∧ G ≤ 9223372036854775807 ∧
      Blk w' w.heap.size (cs ++ l') e ∧ l'.length = (G - n) * sz ∧ New1 w w' := by
  obtain ⟨i, z, hi, hz, hs, hby, hzs, _⟩ := h.info
  have hold : (Builtin.firstCells i.size n (.slice a n c)).run P w.drew = .ok cs.toArray w.drew := by
    rw [hs]; exact first_cells hcl ha rfl
  have hb0 : 1 ≤ bytes := h.bpos
  have hnk : n + k ≤ 140737488355328 := Nat.le_trans (Nat.le_mul_of_pos_right _ hb0) hfit
  have hkb : k * bytes ≤ 140737488355328 := Nat.le_trans (Nat.mul_le_mul_right _ (by omega)) hfit
  have hge := grownCap_ge w (n + k) c e
  have hmax := grownCap_le_maxLen w (n + k) c e (by unfold maxLen; omega)
  unfold maxLen at hmax
  refine ⟨_, grownCap w (n + k) c e, (Builtin.zeroCells z.cells k ++ Builtin.zeroCells z.cells (grownCap w (n + k) c e - (n + k))).toList, fun ty => Lib.run_append_grow_zeros w tS tI ty e i z .i64 .i64 h.und hI hi hz a n c cs hold k hk (by rw [hs]; exact h.pos) hroom (by omega) (by rw [hby]; omega) (by rw [hby]; exact growslice_fits hroom hfit), hge, by omega, ?_, ?_, ?_⟩
  · have := (hp_alloc (w := w.drew) (.cells (cs.toArray ++ Builtin.zeroCells z.cells k ++ Builtin.zeroCells z.cells (grownCap w (n + k) c e - (n + k))) e)).1
    unfold Blk
    rw [show w.drew.heap.size = w.heap.size from rfl] at this
    rw [this]
    congr 2
    apply Array.ext'
    simp [List.append_assoc]
  · rw [Array.length_toList, Array.size_append, size_zeroCells, size_zeroCells, hzs, ← Nat.add_mul]
    congr 1
    omega
  · have := hp_alloc (w := w.drew) (.cells (cs.toArray ++ Builtin.zeroCells z.cells k ++ Builtin.zeroCells z.cells (grownCap w (n + k) c e - (n + k))) e)
    exact ⟨this.2.1, this.2.2, rfl⟩
end
end Go.Proofs.Ythlpjdjipchdkaa.E

namespace Go.Proofs.Ythlpjdjipchdkaa.E
open Go Go.Proofs Go.Shelf Go.RowKit Go.Lib
set_option linter.unusedSimpArgs false
set_option linter.unusedVariables false
structure InsW (P : Program) (f fo tS tI sz : Nat) : Prop where
  none : ∀ (a : Option Addr) (n c i : Nat) (va : Option Addr) (vc : Nat) (w : World), i ≤ n → n ≤ c → n ≤ 140737488355328 →
    Calls P f #[.slice a n c, .int .i64 i, .slice va 0 vc] w fun e w' => e = .returned (.slice a n c) ∧ w' = w
  last : ∀ (a : Option Addr) (n c m vb vo vc : Nat) (w W : World) (r : Value), 0 < m → n ≤ c → n + m ≤ 140737488355328 →
    (∀ ty, (Builtin.append_ #[tS, tS] ty #[.slice a n c, .slice (some ⟨vb, vo, .none⟩) m vc]).run P w = .ok r W) →
    Calls P f #[.slice a n c, .int .i64 n, .slice (some ⟨vb, vo, .none⟩) m vc] w fun e w' => e = .returned r ∧ w' = W
  shift : ∀ (b off n c i vb vo m vc : Nat) (w W1 W2 : World), i < n → 0 < m → n + m ≤ c → n + m ≤ 140737488355328 →
    (∀ lb cb, (callFunc fo #[.slice (some ⟨vb, vo, .none⟩) m vc, .slice (some ⟨b, off + (i + m) * sz, .none⟩) lb cb]).run P w = .ok (.value (.bool false)) w) →
    (∀ ty dc sc, (Builtin.copy_ #[tS, tS] ty #[.slice (some ⟨b, off + (i + m) * sz, .none⟩) (n + m - (i + m)) dc, .slice (some ⟨b, off + i * sz, .none⟩) (n + m - i) sc]).run P w.drew = .ok (goInt ((n - i : Nat) : Int)) W1) →
    (∀ ty dc, (Builtin.copy_ #[tS, tS] ty #[.slice (some ⟨b, off + i * sz, .none⟩) (n + m - i) dc, .slice (some ⟨vb, vo, .none⟩) m vc]).run P W1 = .ok (goInt (m : Int)) W2) →
    Calls P f #[.slice (some ⟨b, off, .none⟩) n c, .int .i64 i, .slice (some ⟨vb, vo, .none⟩) m vc] w fun e w' => e = .returned (.slice (some ⟨b, off, .none⟩) (n + m) c) ∧ w' = W2
  grow : ∀ (b off n c i vb vo m vc B G : Nat) (w W1 W2 W3 : World), i < n → 0 < m → n ≤ c → c < n + m → n + m ≤ 140737488355328 → n + m ≤ G → G ≤ 9223372036854775807 →
    (∀ ty, (Builtin.append_ #[tS, tI] ty #[.slice (some ⟨b, off, .none⟩) i c, .int .i64 ((n : Int) + (m : Int) - (i : Int))]).run P w = .ok (.slice (some ⟨B, 0, .none⟩) (n + m) G) W1) →
    (∀ ty dc, (Builtin.copy_ #[tS, tS] ty #[.slice (some ⟨B, i * sz, .none⟩) (n + m - i) dc, .slice (some ⟨vb, vo, .none⟩) m vc]).run P W1 = .ok (goInt (m : Int)) W2) →
    (∀ ty dc sc, (Builtin.copy_ #[tS, tS] ty #[.slice (some ⟨B, (i + m) * sz, .none⟩) (n + m - (i + m)) dc, .slice (some ⟨b, off + i * sz, .none⟩) (n - i) sc]).run P W2.drew = .ok (goInt ((n - i : Nat) : Int)) W3) →
    Calls P f #[.slice (some ⟨b, off, .none⟩) n c, .int .i64 i, .slice (some ⟨vb, vo, .none⟩) m vc] w fun e w' => e = .returned (.slice (some ⟨B, 0, .none⟩) (n + m) G) ∧ w' = W3
  over : ∀ (w : World) (a b : Addr) (la ca lb cb : Nat), a.block ≠ b.block → ∀ (tA tB : TypeId) (kA kB : Nat), w.shape? a.block = some (tA, kA) → w.shape? b.block = some (tB, kB) → kB ≠ 0 →
    w.frozen? a = false → w.frozen? { block := a.block, off := kA } = false → (callFunc fo #[.slice (some a) la ca, .slice (some b) lb cb]).run P w = .ok (.value (.bool false)) w
structure DelW (P : Program) (f tS sz : Nat) : Prop where
  none : ∀ (b off n c i : Nat) (w : World), i ≤ n → n ≤ c → n ≤ 140737488355328 →
    Calls P f #[.slice (some ⟨b, off, .none⟩) n c, .int .i64 i, .int .i64 i] w fun e w' => e = .returned (.slice (some ⟨b, off, .none⟩) n c) ∧ w' = w
  some : ∀ (b off n c i j : Nat) (w W1 W2 : World), i < j → j ≤ n → n ≤ c → n ≤ 140737488355328 → ∀ A : Addr, (if c = j then Option.some (⟨b, off, .none⟩ : Addr) else Option.some ⟨b, off + j * sz, .none⟩) = Option.some A →
    (∀ ty, (Builtin.append_ #[tS, tS] ty #[.slice (Option.some ⟨b, off, .none⟩) i c, .slice (Option.some A) (n - j) (c - j)]).run P w.drew = .ok (.slice (Option.some ⟨b, off, .none⟩) (i + (n - j)) c) W1) →
    (∀ ty, (Builtin.clear_ #[tS] ty #[.slice (Option.some ⟨b, off + (i + (n - j)) * sz, .none⟩) (n - (i + (n - j))) (c - (i + (n - j)))]).run P W1 = .ok (.tuple #[]) W2) →
    Calls P f #[.slice (Option.some ⟨b, off, .none⟩) n c, .int .i64 i, .int .i64 j] w fun e w' => e = .returned (.slice (Option.some ⟨b, off, .none⟩) (i + (n - j)) c) ∧ w' = W2
def RowTo (w : World) (sb : Nat → Prop) (sz N : Nat) (cs : List Value) (e : Ending) (w' : World) : Prop :=
  ∃ b o c l E, e = .returned (.slice (some ⟨b, o, none⟩) N c) ∧ N ≤ c ∧ Blk w' b l E ∧ o + c * sz ≤ l.length ∧ (l.drop o).take (N * sz) = cs ∧ (sb b ∨ w.heap.size = b) ∧ b < w'.heap.size ∧
    (∀ k, k < w.heap.size → ¬ sb k → hpOf w' k = hpOf w k) ∧ w.heap.size ≤ w'.heap.size ∧ restOf w' = restOf w
def RowIn (w : World) (sz : Nat) (a : Option Addr) (n c : Nat) (cs : List Value) (sb : Nat → Prop) : Prop :=
  cs.length = n * sz ∧ n ≤ c ∧ (∀ v ∈ cs, v.oneCell' = true) ∧ ((n = 0 ∧ c = 0) ∨ ∃ b o l E, a = some ⟨b, o, none⟩ ∧ Blk w b l E ∧ o + c * sz ≤ l.length ∧ (l.drop o).take (n * sz) = cs ∧ sb b)
section
variable {P : Program} {w : World} {tS tI e f fo : Nat} {sz bytes : Nat}
theorem Blk.lt {b : Nat} {l : List Value} {E : TypeId} (h : Blk w b l E) : b < w.heap.size := by
  unfold Blk hpOf at h
  exact (Array.getElem?_eq_some_iff.1 h).1
theorem Blk.shape {b : Nat} {l : List Value} {E : TypeId} (h : Blk w b l E) : w.shape? b = some (E, l.length) := by
  have : w.heap[b]? = some (.cells l.toArray E (0, 0)) := h
  unfold World.shape?; rw [this]; rfl
theorem Blk.calm {b : Nat} {l : List Value} {E : TypeId} (h : Blk w b l E) (o : Nat) : w.frozen? ⟨b, o, none⟩ = false := by
  have : w.heap[b]? = some (.cells l.toArray E (0, 0)) := h
  unfold World.frozen?; simp [this]
theorem Only1.of {w' : World} {b b' : Nat} {l : List Value} {E : TypeId} (h : Only1 w w' b) (hb : b' ≠ b) (hl : Blk w b' l E) : Blk w' b' l E := by
  unfold Blk; rw [h.frame b' hb]; exact hl
theorem Only1.trans {w' w'' : World} {b : Nat} (h : Only1 w w' b) (h' : Only1 w' w'' b) : Only1 w w'' b :=
  ⟨fun k hk => (h'.frame k hk).trans (h.frame k hk), h'.size.trans h.size, h'.rest.trans h.rest⟩
theorem drew_only (w : World) (b : Nat) : Only1 w w.drew b := ⟨fun _ _ => rfl, rfl, rfl⟩
theorem Blk.drew {b : Nat} {l : List Value} {E : TypeId} (h : Blk w b l E) : Blk w.drew b l E := h
theorem ins_cells (W : InsW P f fo tS tI sz) (h : ElT P tS e sz bytes) (hI : P.underlying tI = some (.int .i64)) {a a3 : Option Addr} {n c i m c3 : Nat} {cs vs : List Value} {sb : Nat → Prop} (hi : i ≤ n) (hm : 0 < m)
    (hfit : (n + m) * bytes ≤ 140737488355328) (hs : RowIn w sz a n c cs sb) (hv : ∃ bs os ls Es, a3 = some ⟨bs, os, none⟩ ∧ Blk w bs ls Es ∧ os + m * sz ≤ ls.length ∧ (ls.drop os).take (m * sz) = vs ∧ ¬ sb bs) (h1v : ∀ v ∈ vs, v.oneCell' = true) :
    Calls P f #[.slice a n c, .int .i64 i, .slice a3 m c3] w (RowTo w sb sz (n + m) (cs.take (i * sz) ++ vs ++ cs.drop (i * sz))) := by
  obtain ⟨bs, os, ls, Es, rfl, hbs, hos, hvs, hnsb⟩ := hv
  obtain ⟨hcl, hnc, h1c, hs⟩ := hs
  have hvl : vs.length = m * sz := by rw [← hvs]; simp; omega
  have hb0 : 1 ≤ bytes := h.bpos
  have hnm : n + m ≤ 140737488355328 := Nat.le_trans (Nat.le_mul_of_pos_right _ hb0) hfit
  have hsz : 1 ≤ sz := h.pos
  have hmul : (n + m) * sz = n * sz + m * sz := Nat.add_mul _ _ _
  by_cases hin : i = n
  · subst hin
    have e1 : cs.take (i * sz) = cs := List.take_of_length_le (by omega)
    have e2 : cs.drop (i * sz) = [] := List.drop_eq_nil_of_le (by omega)
    rw [e1, e2, List.append_nil]
    by_cases hroom : i + m ≤ c
    · rcases hs with ⟨h0, h0'⟩ | ⟨b, o, l, E, rfl, hb, ho, hcs, hsb⟩
      · omega
      · obtain ⟨w', g1, g2, g3⟩ := run_app_roomL (n := i) (m := m) (c2 := c3) h hroom hb ho hbs hos (by rw [hvs]; exact h1v)
        refine (W.last _ i c m bs os c3 w w' _ hm hnc hnm g1).mono ?_
        rintro e' w'' ⟨rfl, rfl⟩
        have hle : i * sz + m * sz ≤ c * sz := by rw [← Nat.add_mul]; exact Nat.mul_le_mul_right _ hroom
        refine ⟨b, o, c, _, E, rfl, hroom, g2, ?_, ?_, .inl hsb, by rw [g3.size]; exact hb.lt, fun k _ hk => g3.frame k (by rintro rfl; exact hk hsb), by rw [g3.size]; exact Nat.le_refl _, g3.rest⟩
        · rw [hvs]; simp only [List.length_append, List.length_take, List.length_drop, hvl]; omega
        · rw [hvs, hmul, List.append_assoc, List.drop_append_of_le_length (by simp; omega), List.drop_take, show o + i * sz - o = i * sz by omega, hcs, ← List.append_assoc]
          rw [List.take_append_of_le_length (by simp; omega), List.take_of_length_le (by simp; omega)]
    · have ha : (i = 0) ∨ ∃ b o l E, a = some ⟨b, o, none⟩ ∧ Blk w b l E ∧ o + i * sz ≤ l.length ∧ (l.drop o).take (i * sz) = cs := by
        rcases hs with ⟨h0, h0'⟩ | ⟨b, o, l, E, h1, hb, ho, hcs, hsb⟩
        · exact .inl h0
        · have := Nat.mul_le_mul_right sz hnc
          exact .inr ⟨b, o, l, E, h1, hb, by omega, hcs⟩
      obtain ⟨w', G, l', g1, g2, g3, g4, g5⟩ := run_app_growL (n := i) (m := m) (c2 := c3) h (by omega : c < i + m) hfit hcl ha hbs hos (by rw [hvs]; exact h1v)
      refine (W.last _ i c m bs os c3 w w' _ hm hnc hnm g1).mono ?_
      rintro e' w'' ⟨rfl, rfl⟩
      refine ⟨w.heap.size, 0, G, _, e, rfl, g2, g3, ?_, ?_, .inr rfl, by rw [g5.size]; omega, fun k hk _ => g5.frame k hk, by rw [g5.size]; omega, g5.rest⟩
      · rw [hvs]; simp only [List.length_append, hvl, hcl, g4]
        rw [Nat.sub_mul]
        have := Nat.mul_le_mul_right sz g2
        omega
      · rw [hvs, hmul, List.drop_zero, List.take_append_of_le_length (by simp; omega), List.take_of_length_le (by simp; omega)]
  · have hlt : i < n := by omega
    have hni : n - i + i = n := by omega
    have hmi : (n - i) * sz + i * sz = n * sz := by rw [← Nat.add_mul, hni]
    have him : (i + m) * sz = i * sz + m * sz := Nat.add_mul _ _ _
    rcases hs with ⟨h0, h0'⟩ | ⟨b, o, l, E, rfl, hb, ho, hcs, hsb⟩
    · omega
    have hbb : bs ≠ b := by rintro rfl; exact hnsb hsb
    have hcn := Nat.mul_le_mul_right sz hnc
    have hd : (l.drop (o + i * sz)).take ((n - i) * sz) = cs.drop (i * sz) := by
      rw [← hcs, List.drop_take, List.drop_drop]
      congr 1
      omega
    have ht : (l.drop o).take (i * sz) = cs.take (i * sz) := by
      rw [← hcs, List.take_take]
      congr 1
      omega
    have hdl : (cs.drop (i * sz)).length = (n - i) * sz := by simp; omega
    have h1d : ∀ v ∈ cs.drop (i * sz), v.oneCell' = true := fun v hv => h1c v (List.mem_of_mem_drop hv)
    by_cases hroom : n + m ≤ c
    · have hle : n * sz + m * sz ≤ c * sz := by rw [← Nat.add_mul]; exact Nat.mul_le_mul_right _ hroom
      obtain ⟨W1, g1, g2, g3⟩ := run_copyL (ty := 0) (n := n + m - (i + m)) (n2 := n + m - i) (c := 0) (c2 := 0) (k := n - i) (o := o + (i + m) * sz) (os := o + i * sz) h (by simp only [Nat.min_def]; split <;> omega) hb.drew (by omega) hb.drew (by omega) (by rw [hd]; exact h1d)
      rw [hd] at g2
      have g1' : ∀ ty dc sc, (Builtin.copy_ #[tS, tS] ty #[.slice (some ⟨b, o + (i + m) * sz, none⟩) (n + m - (i + m)) dc, .slice (some ⟨b, o + i * sz, none⟩) (n + m - i) sc]).run P w.drew = .ok (goInt ((n - i : Nat) : Int)) W1 := fun ty dc sc => g1 ty tS
      have hbs1 := (g3.of hbb hbs.drew : Blk W1 bs ls Es)
      obtain ⟨W2, k1, k2, k3⟩ := run_copyL (ty := 0) (n := n + m - i) (n2 := m) (c := 0) (c2 := c3) (k := m) (o := o + i * sz) (os := os) h (by simp only [Nat.min_def]; split <;> omega) g2 (by simp only [List.length_append, List.length_take, List.length_drop]; omega) hbs1 hos (by rw [hvs]; exact h1v)
      rw [hvs] at k2
      refine (W.shift b o n c i bs os m c3 w W1 W2 hlt hm hroom hnm (fun lb cb => W.over w ⟨bs, os, none⟩ ⟨b, o + (i + m) * sz, none⟩ m c3 lb cb hbb Es E _ _ hbs.shape hb.shape (by have := Nat.mul_le_mul_right sz (show 1 ≤ c by omega); omega) (hbs.calm _) (hbs.calm _)) g1' (fun ty dc => k1 ty tS)).mono ?_
      rintro e' w'' ⟨rfl, rfl⟩
      have h02 : Only1 w w'' b := ((drew_only w b).trans g3).trans k3
      refine ⟨b, o, c, _, E, rfl, hroom, k2, ?_, ?_, .inl hsb, by rw [h02.size]; exact hb.lt, fun k _ hk => h02.frame k (by rintro rfl; exact hk hsb), by rw [h02.size]; exact Nat.le_refl _, h02.rest⟩
      · simp only [List.length_append, List.length_take, List.length_drop, hvl, hdl]; omega
      · have e1 : List.take (o + i * sz) (List.take (o + (i + m) * sz) l ++ List.drop (i * sz) cs ++ List.drop (o + (i + m) * sz + (n - i) * sz) l) = List.take (o + i * sz) l := by
          rw [List.append_assoc, List.take_append_of_le_length (by simp; omega), List.take_take]
          congr 1; omega
        have e2 : List.drop (o + i * sz + m * sz) (List.take (o + (i + m) * sz) l ++ List.drop (i * sz) cs ++ List.drop (o + (i + m) * sz + (n - i) * sz) l) = List.drop (i * sz) cs ++ List.drop (o + (i + m) * sz + (n - i) * sz) l := by
          rw [List.append_assoc]
          apply List.drop_left'
          simp; omega
        rw [e1, e2, List.append_assoc, List.drop_append_of_le_length (by simp; omega), List.drop_take, show o + i * sz - o = i * sz by omega, ht, hmul]
        rw [← List.append_assoc, ← List.append_assoc, List.take_append_of_le_length (by simp; omega), List.take_of_length_le (by simp; omega)]
    · have hk : (n : Int) + (m : Int) - (i : Int) = ((n + m - i : Nat) : Int) := by omega
      have hik : i + (n + m - i) = n + m := by omega
      have hio : o + i * sz ≤ l.length := by omega
      obtain ⟨W1, G, l', g1, g2, g2', g3, g4, g5⟩ := run_zeros_growL (n := i) (c := c) (k := n + m - i) (cs := cs.take (i * sz)) h hI (by omega) (by omega) (by rw [hik]; exact hfit) (by simp; omega) (.inr ⟨b, o, l, E, rfl, hb, hio, ht⟩)
      rw [hik] at g1 g2
      have hGl : l'.length = (G - i) * sz := g4
      have hGm : (G - i) * sz + i * sz = G * sz := by rw [← Nat.add_mul, Nat.sub_add_cancel (by omega)]
      have hGn := Nat.mul_le_mul_right sz g2
      have hB : w.heap.size ≠ b := by have := hb.lt; omega
      have hBs : w.heap.size ≠ bs := by have := hbs.lt; omega
      have hbs1 : Blk W1 bs ls Es := by unfold Blk; rw [g5.frame bs hbs.lt]; exact hbs
      have hb1 : Blk W1 b l E := by unfold Blk; rw [g5.frame b hb.lt]; exact hb
      obtain ⟨W2, k1, k2, k3⟩ := run_copyL (ty := 0) (n := n + m - i) (n2 := m) (c := 0) (c2 := c3) (k := m) (o := i * sz) (os := os) h (by simp only [Nat.min_def]; split <;> omega) g3 (by simp; omega) hbs1 hos (by rw [hvs]; exact h1v)
      rw [hvs] at k2
      have hb2 : Blk W2 b l E := k3.of (Ne.symm hB) hb1
      obtain ⟨W3, j1, j2, j3⟩ := run_copyL (ty := 0) (n := n + m - (i + m)) (n2 := n - i) (c := 0) (c2 := 0) (k := n - i) (o := (i + m) * sz) (os := o + i * sz) h (by simp only [Nat.min_def]; split <;> omega) k2.drew (by simp only [List.length_append, List.length_take, List.length_drop]; omega) hb2.drew (by omega) (by rw [hd]; exact h1d)
      rw [hd] at j2
      refine (W.grow b o n c i bs os m c3 w.heap.size G w W1 W2 W3 hlt hm hnc (by omega) hnm g2 g2' (fun ty => by rw [hk]; exact g1 ty) (fun ty dc => k1 ty tS) (fun ty dc sc => j1 ty tS)).mono ?_
      rintro e' w'' ⟨rfl, rfl⟩
      have h13 : Only1 W1 w'' w.heap.size := (k3.trans (drew_only W2 _)).trans j3
      refine ⟨w.heap.size, 0, G, _, e, rfl, g2, j2, ?_, ?_, .inr rfl, by rw [h13.size, g5.size]; omega, fun k hk' _ => (h13.frame k (by omega)).trans (g5.frame k hk'), by rw [h13.size, g5.size]; omega, h13.rest.trans g5.rest⟩
      · simp only [List.length_append, List.length_take, List.length_drop, hvl, hdl]; omega
      · have e1 : List.take (i * sz) (List.take (i * sz) cs ++ l') = List.take (i * sz) cs := by
          rw [List.take_append_of_le_length (by simp; omega), List.take_of_length_le (by simp; omega)]
        have e2 : List.take ((i + m) * sz) (List.take (i * sz) (List.take (i * sz) cs ++ l') ++ vs ++ List.drop (i * sz + m * sz) (List.take (i * sz) cs ++ l')) = List.take (i * sz) cs ++ vs := by
          rw [e1]
          apply List.take_left'
          simp; omega
        rw [e2, List.drop_zero, hmul, List.take_append_of_le_length (by simp; omega), List.take_of_length_le (by simp; omega)]
end
end Go.Proofs.Ythlpjdjipchdkaa.E

namespace Go.Proofs.Ythlpjdjipchdkaa.E
open Go Go.Proofs
set_option linter.unusedSimpArgs false
set_option linter.unusedVariables false
section
variable {P : Program} {T : Tab} {G : Glob}
theorem RL.keepH {h h' : Hp} {S S' : Set'} {l : Bool} {t : Ty} {xs : List (den t)} {cs : List Value} {X : List Nat} (hS : ∀ b, S b → S' b ∧ h' b = h b) (hX : ∀ b ∈ X, h' b = h b) (hr : RL (Rep h S l t) xs cs X) : RL (Rep h' S' l t) xs cs X :=
  RL.mono_mem (fun x c Y _ hY hq => Rep.keep hS (fun b hb => hX b (hY b hb)) hq) hr
theorem own_sl {w : World} {S : Set'} {t : Ty} {xs : List (den t)} {cs : List Value} {X : List Nat} (hu : u8T t = false) (hr : Rep (hpOf w) S false (.sl true t) xs cs X) :
    ∃ a c, cs = [.slice a xs.length c] ∧ xs.length ≤ c ∧
      ((xs = [] ∧ c = 0 ∧ X = []) ∨ ∃ b o l E X', a = some ⟨b, o, none⟩ ∧ Blk w b l E ∧ o + c * t.size ≤ l.length ∧ RL (Rep (hpOf w) S false t) xs ((l.drop o).take (xs.length * t.size)) X' ∧ X = b :: X') := by
  obtain ⟨a, c, h1, h2, h3⟩ := hr
  refine ⟨a, c, h1, h2, ?_⟩
  rcases h3 with ⟨e1, _, e2, e3⟩ | ⟨b, o, arr, E, fr, X', e1, e2, e3, e4, e5⟩
  · exact .inl ⟨e1, e2, e3⟩
  · simp only [Bool.not_false, Bool.and_true, if_true] at e5
    obtain ⟨e5, hfr⟩ := e5
    have hfr : fr = (0, 0) := by
      rcases hfr with h | ⟨h, _⟩
      · exact h
      · rw [hu] at h; cases h
    subst hfr
    exact .inr ⟨b, o, arr.toList, E, X', e1, by unfold Blk; simpa using e2, by simpa using e3, by simpa using e4, e5⟩
theorem wrap_sl {t : Ty} {o : Bool} {v : Value} : wrapV (.sl o t) [v] = v := rfl
theorem wrap_int {k : IntKind} {v : Value} : wrapV (.int k) [v] = v := rfl
theorem ArgsR.len {h : Hp} {L I : Set'} : ∀ {ps : List (Bool × Ty)} {a : denL (ps.map (·.2))} {vs : List Value} {Xs : List (List Nat)}, ArgsR h L I ps a vs Xs → vs.length = ps.length ∧ Xs.length = ps.length
  | [], _, [], [], _ => ⟨rfl, rfl⟩
  | [], _, [], _ :: _, h => h.elim
  | [], _, _ :: _, _, h => h.elim
  | _ :: _, _, [], _, h => h.elim
  | _ :: _, _, _ :: _, [], h => h.elim
  | _ :: ps, (_, _), _ :: vs, _ :: Xs, h => by
    obtain ⟨h1, h2⟩ := ArgsR.len h.2
    exact ⟨by simp [h1], by simp [h2]⟩
theorem rep_row {w w' : World} {S : Set'} {t : Ty} {q : List (den t)} {b o c N : Nat} {l : List Value} {E : TypeId} {X' : List Nat} (hN : q.length = N) (hc : N ≤ c) (hb : Blk w' b l E) (ho : o + c * t.size ≤ l.length)
    (hr : RL (Rep (hpOf w') S false t) q ((l.drop o).take (N * t.size)) X') : Rep (hpOf w') S false (.sl true t) q [.slice (some ⟨b, o, none⟩) N c] (b :: X') := by
  subst hN
  refine ⟨some ⟨b, o, none⟩, c, rfl, hc, .inr ⟨b, o, l.toArray, E, (0, 0), X', rfl, hb, by simpa using ho, by simpa using hr, ?_⟩⟩
  simp only [Bool.not_false, Bool.and_true, if_true]
  exact ⟨trivial, .inl rfl⟩
theorem RL.cut {α : Type} {R : α → List Value → List Nat → Prop} {s : Nat} (hl : ∀ x c X, R x c X → c.length = s) {xs : List α} {cs : List Value} {X : List Nat} (i : Nat) (hi : i ≤ xs.length) (hr : RL R xs cs X) :
    ∃ X1 X2, X = X1 ++ X2 ∧ RL R (xs.take i) (cs.take (i * s)) X1 ∧ RL R (xs.drop i) (cs.drop (i * s)) X2 := by
  rw [← List.take_append_drop i xs] at hr
  obtain ⟨c1, c2, X1, X2, e1, e2, e3, e4⟩ := RL.split hr
  have hlen := RL.len hl e3
  have : (xs.take i).length = i := by simp; omega
  rw [this] at hlen
  refine ⟨X1, X2, e2, ?_, ?_⟩
  · rw [e1, List.take_left' hlen]; exact e3
  · rw [e1, List.drop_left' hlen]; exact e4
variable {f fo tS tI e : Nat} {bytes : Nat} {t : Ty}
theorem ins_hold (W : InsW P f fo tS tI t.size) (h : ElT P tS e t.size bytes) (hI : P.underlying tI = some (.int .i64)) (hu : u8T t = false) (xs ys : List (den t)) (i : Int) (h0 : 0 ≤ i) (hi : i ≤ xs.length)
    (hfit : (xs.length + ys.length) * bytes ≤ 140737488355328) :
    Hold P T G f [(false, .sl true t), (false, .int .i64), (false, .sl true t)] [.sl true t] (xs, (i, (ys, ()))) (xs.take i.toNat ++ ys ++ xs.drop i.toNat, ()) () := by
  intro C hP hT hG htk w vs Xs hh hn hz ha hX hnd hlt
  subst hP
  have hl := ArgsR.len ha
  match vs, Xs, hl, ha with
  | [v1, v2, v3], [X1, X2, X3], _, ⟨⟨cs1, r1, e1⟩, ⟨cs2, r2, e2⟩, ⟨cs3, r3, e3⟩, _⟩ =>
    have r1 : Rep C.h (Sx C.L C.I false) false (.sl true t) xs cs1 X1 := r1
    have r2 : cs2 = [.int .i64 i] ∧ X2 = [] := r2
    have r3 : Rep C.h (Sx C.L C.I false) false (.sl true t) ys cs3 X3 := r3
    rw [← hh] at r1 r3
    obtain ⟨rfl, rfl⟩ := r2
    obtain ⟨a1, c1, rfl, hc1, hs⟩ := own_sl hu r1
    obtain ⟨a3, c3, rfl, hc3, hv⟩ := own_sl hu r3
    rw [wrap_sl] at e1 e3
    rw [wrap_int] at e2
    subst e1 e2 e3
    obtain ⟨k, rfl⟩ : ∃ k : Nat, i = (k : Int) := ⟨i.toNat, by omega⟩
    simp only [Int.toNat_natCast]
    have hk : k ≤ xs.length := by omega
    have hb0 : 1 ≤ bytes := h.bpos
    have hnm : xs.length + ys.length ≤ 140737488355328 := Nat.le_trans (Nat.le_mul_of_pos_right _ hb0) hfit
    have hnd1 : X1.Nodup ∧ X3.Nodup ∧ ∀ x ∈ X1, x ∉ X3 := by
      simp only [List.flatten_cons, List.flatten_nil, List.append_nil, List.nil_append] at hnd
      obtain ⟨g1, g2, g3⟩ := List.nodup_append.1 hnd
      exact ⟨g1, g2, fun x h1 h2 => g3 x h1 x h2 rfl⟩
    have hXin : ∀ b, (b ∈ X1 ∨ b ∈ X3) → C.X b ∧ b < C.n := fun b hb => by
      have hm : b ∈ [X1, [], X3].flatten := by simpa using hb
      exact ⟨(hX b).2 hm, hlt b hm⟩
    have hIb : ∀ b, Sx C.L C.I false b → b < C.n ∧ ¬ C.X b := fun b hb => by
      rcases hb with hb | ⟨hb, _⟩
      · exact C.Iok b hb
      · cases hb
    by_cases hy : ys = []
    · subst hy
      refine (W.none a1 xs.length c1 k a3 c3 w hk hc1 (by omega)).mono ?_
      rintro e' w' ⟨rfl, rfl⟩
      refine ⟨_, C.I, [.slice a1 xs.length c1], [X1], [], rfl, rfl, ⟨⟨[.slice a1 xs.length c1], ?_, rfl⟩, trivial⟩, rfl, ?_, ?_, fun b hb => ⟨by have := (C.Iok b hb).1; omega, .inl hb⟩, fun b hb => hb, fun b hb _ => by rw [hh], by omega, hz⟩
      · rw [List.append_nil, List.take_append_drop]; exact r1
      · simpa using hnd1.1
      · intro b hb
        have hb : b ∈ X1 := by simpa using hb
        obtain ⟨g1, g2⟩ := hXin b (.inl hb)
        exact ⟨fun h => (C.Iok b h).2 g1, fun h => (C.Lok b h).2 g1, by omega, .inl g1⟩
    · have hm : 0 < ys.length := List.length_pos_iff.2 hy
      rcases hv with ⟨h1, _⟩ | ⟨b3, o3, l3, E3, X3', rfl, hb3, ho3, hr3, rfl⟩
      · exact absurd h1 hy
      have h3n : b3 < C.n := (hXin b3 (.inr (by simp))).2
      have hone3 : ∀ v ∈ (l3.drop o3).take (ys.length * t.size), v.oneCell' = true := RL.one (fun _ _ _ => Rep.one) hr3
      have hlen3 := RL.len (fun _ _ _ => Rep.len) hr3
      have hle3 := Nat.mul_le_mul_right t.size hc3
      have hov3 : o3 + ys.length * t.size ≤ l3.length := by omega
      have key : ∃ sb cs X1', RowIn w t.size a1 xs.length c1 cs sb ∧ RL (Rep (hpOf w) (Sx C.L C.I false) false t) xs cs X1' ∧ (∀ b, sb b → b ∈ X1) ∧ (∀ b ∈ X1', b ∈ X1 ∧ ¬ sb b) ∧ X1'.Nodup ∧ (∀ b, sb b → b ∉ X1') := by
        rcases hs with ⟨rfl, rfl, rfl⟩ | ⟨b, o, l, E, X1', rfl, hb, ho, hr, rfl⟩
        · exact ⟨fun _ => False, [], [], ⟨by simp, by simp, by simp, .inl ⟨rfl, rfl⟩⟩, ⟨rfl, rfl⟩, fun _ h => h.elim, by simp, List.nodup_nil, fun _ h => h.elim⟩
        · have hl := RL.len (fun _ _ _ => Rep.len) hr
          have hn1 := List.nodup_cons.1 hnd1.1
          exact ⟨fun k => k = b, _, X1', ⟨hl, hc1, RL.one (fun _ _ _ => Rep.one) hr, .inr ⟨b, o, l, E, rfl, hb, ho, rfl, rfl⟩⟩, hr, fun k hk => by rw [hk]; simp, fun k hk => ⟨by simp [hk], by rintro rfl; exact hn1.1 hk⟩, hn1.2, fun k hk => by rw [hk]; exact hn1.1⟩
      obtain ⟨sb, cs, X1', hin, hrl, hsb, hX1', hnX1', hsbX⟩ := key
      refine (ins_cells W h hI hk hm hfit hin ⟨b3, o3, l3, E3, rfl, hb3, hov3, rfl, fun hs' => hnd1.2.2 b3 (hsb b3 hs') (by simp)⟩ hone3).mono ?_
      rintro e' w' ⟨b, o, c, l, E, rfl, hNc, hb, ho, hcs, hbw, hbl, hfr, hgr, hrest⟩
      obtain ⟨Xa, Xb, rfl, ra, rb⟩ := RL.cut (fun _ _ _ => Rep.len) k hk hrl
      have hn3 := List.nodup_cons.1 hnd1.2.1
      have hfrI : ∀ b', Sx C.L C.I false b' → Sx C.L C.I false b' ∧ hpOf w' b' = hpOf w b' := fun b' hb' => by
        obtain ⟨g1, g2⟩ := hIb b' hb'
        exact ⟨hb', hfr b' (by omega) (fun h => g2 (hXin b' (.inl (hsb b' h))).1)⟩
      have ra' := RL.keepH hfrI (fun b' hb' => hfr b' (by have := (hXin b' (.inl (hX1' b' (by simp [hb'])).1)).2; omega) (hX1' b' (by simp [hb'])).2) ra
      have rb' := RL.keepH hfrI (fun b' hb' => hfr b' (by have := (hXin b' (.inl (hX1' b' (by simp [hb'])).1)).2; omega) (hX1' b' (by simp [hb'])).2) rb
      have ry' := RL.keepH hfrI (fun b' hb' => hfr b' (by have := (hXin b' (.inr (by simp [hb']))).2; omega) (fun h => hnd1.2.2 b' (hsb b' h) (by simp [hb']))) hr3
      have hall := RL.append (RL.append ra' ry') rb'
      rw [← hcs] at hall
      have hq : (xs.take k ++ ys ++ xs.drop k).length = xs.length + ys.length := by simp; omega
      have hbX : b ∉ Xa ++ X3' ++ Xb := by
        intro hm'
        rcases hbw with hb' | hb'
        · have h1 := hsbX b hb'
          have h2 := hsb b hb'
          simp only [List.mem_append] at hm' h1
          rcases hm' with (hm' | hm') | hm'
          · exact h1 (.inl hm')
          · exact hnd1.2.2 b h2 (by simp [hm'])
          · exact h1 (.inr hm')
        · simp only [List.mem_append] at hm'
          have : b < C.n := by
            rcases hm' with (hm' | hm') | hm'
            · exact (hXin b (.inl (hX1' b (by simp [hm'])).1)).2
            · exact (hXin b (.inr (by simp [hm']))).2
            · exact (hXin b (.inl (hX1' b (by simp [hm'])).1)).2
          omega
      refine ⟨_, C.I, [.slice (some ⟨b, o, none⟩) (xs.length + ys.length) c], [b :: (Xa ++ X3' ++ Xb)], [], rfl, rfl, ⟨⟨[.slice (some ⟨b, o, none⟩) (xs.length + ys.length) c], rep_row (w := w) hq hNc hb ho hall, rfl⟩, trivial⟩, rfl, ?_, ?_, fun b' hb' => ⟨by have := (C.Iok b' hb').1; omega, .inl hb'⟩, fun b' hb' => hb', fun b' hb' hx => by
        rw [← hh]; exact hfr b' (by omega) (fun h => hx (hXin b' (.inl (hsb b' h))).1), by omega, hrest.trans hz⟩
      · simp only [List.flatten_cons, List.flatten_nil, List.append_nil]
        refine List.nodup_cons.2 ⟨hbX, ?_⟩
        obtain ⟨q1, q2, q3⟩ := List.nodup_append.1 hnX1'
        refine List.nodup_append.2 ⟨List.nodup_append.2 ⟨q1, hn3.2, fun x hx y hy => ?_⟩, q2, fun x hx y hy => ?_⟩
        · rintro rfl
          exact hnd1.2.2 x (hX1' x (by simp [hx])).1 (by simp [hy])
        · rintro rfl
          rcases List.mem_append.1 hx with hx | hx
          · exact q3 x hx x hy rfl
          · exact hnd1.2.2 x (hX1' x (by simp [hy])).1 (by simp [hx])
      · intro b' hb'
        have hb' : b' = b ∨ b' ∈ Xa ++ X3' ++ Xb := by simpa using hb'
        have : (C.X b' ∧ b' < C.n) ∨ (b' = b ∧ w.heap.size = b) := by
          rcases hb' with rfl | hb'
          · rcases hbw with h | h
            · exact .inl (hXin b' (.inl (hsb b' h)))
            · exact .inr ⟨rfl, h⟩
          · simp only [List.mem_append] at hb'
            rcases hb' with (hb' | hb') | hb'
            · exact .inl (hXin b' (.inl (hX1' b' (by simp [hb'])).1))
            · exact .inl (hXin b' (.inr (by simp [hb'])))
            · exact .inl (hXin b' (.inl (hX1' b' (by simp [hb'])).1))
        rcases this with ⟨g1, g2⟩ | ⟨rfl, g1⟩
        · exact ⟨fun h => (C.Iok b' h).2 g1, fun h => (C.Lok b' h).2 g1, by omega, .inl g1⟩
        · exact ⟨fun h => by have := (C.Iok b' h).1; omega, fun h => by have := (C.Lok b' h).1; omega, hbl, .inr (by omega)⟩
end
end Go.Proofs.Ythlpjdjipchdkaa.E

namespace Go.Proofs.Ythlpjdjipchdkaa.E
open Go Go.Proofs
set_option linter.unusedSimpArgs false
set_option linter.unusedVariables false
def hIns (t : Ty) (bytes : Nat) : HandE :=
  ⟨⟨[(false, .sl true t), (false, .int .i64), (false, .sl true t)], [.sl true t]⟩, fun a => match a with
    | (xs, (i, (ys, _))) => br (leB i (List.length xs) && decide ((List.length xs + List.length ys) * bytes ≤ 140737488355328)) (some ((List.take i.toNat xs ++ ys ++ List.drop i.toNat xs, ()), ())) none⟩
section
variable {P : Program} {T : Tab} {G : Glob} {f fo tS tI e : Nat} {bytes : Nat} {t : Ty}
theorem hIns_ok (W : InsW P f fo tS tI t.size) (h : ElT P tS e t.size bytes) (hI : P.underlying tI = some (.int .i64)) (hu : u8T t = false) :
    ∀ a q o, (hIns t bytes).g a = some (q, o) → Hold P T G f (hIns t bytes).s.ps (hIns t bytes).s.rs a q o := by
  rintro ⟨xs, i, ys, u⟩ q o he
  obtain ⟨h1, h2⟩ | ⟨_, h2⟩ := br_some he
  case inr => cases h2
  simp only [Bool.and_eq_true, decide_eq_true_eq, leB_iff] at h1
  obtain ⟨rfl, rfl⟩ := Prod.mk.inj (Option.some.inj h2)
  exact ins_hold W h hI hu xs ys i h1.1.1 h1.1.2 h1.2
end
end Go.Proofs.Ythlpjdjipchdkaa.E

namespace Go.Proofs.Ythlpjdjipchdkaa.E
open Go Go.Proofs Go.Shelf Go.RowKit Go.Lib
set_option linter.unusedSimpArgs false
set_option linter.unusedVariables false
structure RepW (P : Program) (f fo tS tI sz : Nat) : Prop where
  last : ∀ (b off n c i m vb vo vc : Nat) (ra : Option Addr) (rc : Nat) (w W : World), i < n → n < i + m → n ≤ c → n + m ≤ 140737488355328 →
    (∀ ty, (Builtin.append_ #[tS, tS] ty #[.slice (some ⟨b, off, .none⟩) i c, .slice (some ⟨vb, vo, .none⟩) m vc]).run P w = .ok (.slice ra (i + m) rc) W) →
    Calls P f #[.slice (some ⟨b, off, .none⟩) n c, .int .i64 i, .int .i64 n, .slice (some ⟨vb, vo, .none⟩) m vc] w fun e w' => e = .returned (.slice ra (i + m) rc) ∧ w' = W
  shift : ∀ (b off n c i j vb vo m vc : Nat) (w : World) (W1 W2 : Nat → World), i < j → j < n → j < i + m → i + m + (n - j) ≤ c → n + m ≤ 140737488355328 → n ≤ c →
    (∀ q lb cb, (callFunc fo #[.slice (some ⟨b, off + (i + m) * sz, .none⟩) lb cb, .slice (some ⟨vb, vo, .none⟩) m vc]).run P (w.drewN q) = .ok (.value (.bool false)) (w.drewN q)) →
    (∀ q ty dc sc, (Builtin.copy_ #[tS, tS] ty #[.slice (some ⟨b, off + (i + m) * sz, .none⟩) (i + m + (n - j) - (i + m)) dc, .slice (some ⟨b, off + j * sz, .none⟩) (n - j) sc]).run P (w.drewN (q + 1)) = .ok (goInt ((n - j : Nat) : Int)) (W1 q)) →
    (∀ q ty dc, (Builtin.copy_ #[tS, tS] ty #[.slice (some ⟨b, off + i * sz, .none⟩) (i + m + (n - j) - i) dc, .slice (some ⟨vb, vo, .none⟩) m vc]).run P (W1 q) = .ok (goInt (m : Int)) (W2 q)) →
    Calls P f #[.slice (some ⟨b, off, .none⟩) n c, .int .i64 i, .int .i64 j, .slice (some ⟨vb, vo, .none⟩) m vc] w fun e w' => e = .returned (.slice (some ⟨b, off, .none⟩) (i + m + (n - j)) c) ∧ ∃ q, w' = W2 q
  grow : ∀ (b off n c i j vb vo m vc B : Nat) (G : Nat → Nat) (w : World) (W1 W2 W3 : Nat → World), i < j → j < n → j < i + m → n ≤ c → c < i + m + (n - j) → n + m ≤ 140737488355328 → (∀ q, i + m + (n - j) ≤ G q) → (∀ q, G q ≤ 9223372036854775807) →
    (∀ q ty, (Builtin.append_ #[tS, tI] ty #[.slice (some ⟨b, off, .none⟩) i c, .int .i64 ((i : Int) + (m : Int) + ((n - j : Nat) : Int) - (i : Int))]).run P (w.drewN q) = .ok (.slice (some ⟨B, 0, .none⟩) (i + m + (n - j)) (G q)) (W1 q)) →
    (∀ q ty dc, (Builtin.copy_ #[tS, tS] ty #[.slice (some ⟨B, i * sz, .none⟩) (i + m + (n - j) - i) dc, .slice (some ⟨vb, vo, .none⟩) m vc]).run P (W1 q) = .ok (goInt (m : Int)) (W2 q)) →
    (∀ q ty dc sc, (Builtin.copy_ #[tS, tS] ty #[.slice (some ⟨B, (i + m) * sz, .none⟩) (i + m + (n - j) - (i + m)) dc, .slice (some ⟨b, off + j * sz, .none⟩) (n - j) sc]).run P (W2 q).drew = .ok (goInt ((n - j : Nat) : Int)) (W3 q)) →
    Calls P f #[.slice (some ⟨b, off, .none⟩) n c, .int .i64 i, .int .i64 j, .slice (some ⟨vb, vo, .none⟩) m vc] w fun e w' => ∃ q, e = .returned (.slice (some ⟨B, 0, .none⟩) (i + m + (n - j)) (G q)) ∧ w' = W3 q
  over : ∀ (w : World) (a b : Addr) (la ca lb cb : Nat), a.block ≠ b.block → ∀ (tA tB : TypeId) (kA kB : Nat), w.shape? a.block = some (tA, kA) → w.shape? b.block = some (tB, kB) → kB ≠ 0 →
    w.frozen? a = false → w.frozen? { block := a.block, off := kA } = false → (callFunc fo #[.slice (some a) la ca, .slice (some b) lb cb]).run P w = .ok (.value (.bool false)) w
section
variable {P : Program} {w : World} {tS tI e f fo : Nat} {sz bytes : Nat}
theorem Blk.drewN {b : Nat} {l : List Value} {E : TypeId} (h : Blk w b l E) (q : Nat) : Blk (w.drewN q) b l E := h
theorem rep_cells (W : RepW P f fo tS tI sz) (h : ElT P tS e sz bytes) (hI : P.underlying tI = some (.int .i64)) {a a3 : Option Addr} {n c i j m c3 : Nat} {cs vs : List Value} {sb : Nat → Prop} (hij : i < j) (hj : j ≤ n) (hm : j < i + m)
    (hfit : (n + m) * bytes ≤ 140737488355328) (hs : RowIn w sz a n c cs sb) (hv : ∃ bs os ls Es, a3 = some ⟨bs, os, none⟩ ∧ Blk w bs ls Es ∧ os + m * sz ≤ ls.length ∧ (ls.drop os).take (m * sz) = vs ∧ ¬ sb bs) (h1v : ∀ v ∈ vs, v.oneCell' = true) :
    Calls P f #[.slice a n c, .int .i64 i, .int .i64 j, .slice a3 m c3] w (RowTo w sb sz (i + m + (n - j)) (cs.take (i * sz) ++ vs ++ cs.drop (j * sz))) := by
  obtain ⟨bs, os, ls, Es, rfl, hbs, hos, hvs, hnsb⟩ := hv
  obtain ⟨hcl, hnc, h1c, hs⟩ := hs
  have hvl : vs.length = m * sz := by rw [← hvs]; simp; omega
  have hb0 : 1 ≤ bytes := h.bpos
  have hnm : n + m ≤ 140737488355328 := Nat.le_trans (Nat.le_mul_of_pos_right _ hb0) hfit
  have hsz : 1 ≤ sz := h.pos
  rcases hs with ⟨h0, h0'⟩ | ⟨b, o, l, E, rfl, hb, ho, hcs, hsb⟩
  · omega
  have hbb : bs ≠ b := by rintro rfl; exact hnsb hsb
  have hcn := Nat.mul_le_mul_right sz hnc
  have hin := Nat.mul_le_mul_right sz (show i ≤ n by omega)
  have hjn := Nat.mul_le_mul_right sz hj
  have hij' := Nat.mul_le_mul_right sz (show i ≤ j by omega)
  have ht : (l.drop o).take (i * sz) = cs.take (i * sz) := by
    rw [← hcs, List.take_take]
    congr 1
    omega
  have him : (i + m) * sz = i * sz + m * sz := Nat.add_mul _ _ _
  have hti : (cs.take (i * sz)).length = i * sz := by simp; omega
  by_cases hjn' : j = n
  · subst hjn'
    have e2 : cs.drop (j * sz) = [] := List.drop_eq_nil_of_le (by omega)
    rw [e2, List.append_nil, Nat.sub_self, Nat.add_zero]
    by_cases hroom : i + m ≤ c
    · obtain ⟨w', g1, g2, g3⟩ := run_app_roomL (n := i) (m := m) (c2 := c3) h hroom hb ho hbs hos (by rw [hvs]; exact h1v)
      refine (W.last b o j c i m bs os c3 _ _ w w' hij hm hnc hnm g1).mono ?_
      rintro e' w'' ⟨rfl, rfl⟩
      have hle : i * sz + m * sz ≤ c * sz := by rw [← Nat.add_mul]; exact Nat.mul_le_mul_right _ hroom
      refine ⟨b, o, c, _, E, rfl, hroom, g2, ?_, ?_, .inl hsb, by rw [g3.size]; exact hb.lt, fun k _ hk => g3.frame k (by rintro rfl; exact hk hsb), by rw [g3.size]; exact Nat.le_refl _, g3.rest⟩
      · rw [hvs]; simp only [List.length_append, List.length_take, List.length_drop, hvl]; omega
      · rw [hvs, him, List.append_assoc, List.drop_append_of_le_length (by simp; omega), List.drop_take, show o + i * sz - o = i * sz by omega, ht, ← List.append_assoc]
        rw [List.take_append_of_le_length (by simp; omega), List.take_of_length_le (by simp; omega)]
    · have hfi : (i + m) * bytes ≤ 140737488355328 := Nat.le_trans (Nat.mul_le_mul_right _ (by omega)) hfit
      obtain ⟨w', G, l', g1, g2, g3, g4, g5⟩ := run_app_growL (n := i) (m := m) (c2 := c3) (cs := cs.take (i * sz)) h (by omega : c < i + m) hfi hti (.inr ⟨b, o, l, E, rfl, hb, by omega, ht⟩) hbs hos (by rw [hvs]; exact h1v)
      refine (W.last b o j c i m bs os c3 _ _ w w' hij hm hnc hnm g1).mono ?_
      rintro e' w'' ⟨rfl, rfl⟩
      refine ⟨w.heap.size, 0, G, _, e, rfl, g2, g3, ?_, ?_, .inr rfl, by rw [g5.size]; omega, fun k hk _ => g5.frame k hk, by rw [g5.size]; omega, g5.rest⟩
      · rw [hvs]; simp only [List.length_append, hvl, hti, g4]
        rw [Nat.sub_mul]
        have := Nat.mul_le_mul_right sz g2
        omega
      · rw [hvs, him, List.drop_zero, List.take_append_of_le_length (by simp; omega), List.take_of_length_le (by simp; omega)]
  · have hlt : j < n := by omega
    have hnj : n - j + j = n := by omega
    have hmj : (n - j) * sz + j * sz = n * sz := by rw [← Nat.add_mul, hnj]
    have htot : (i + m + (n - j)) * sz = i * sz + m * sz + (n - j) * sz := by rw [Nat.add_mul, him]
    have hd : (l.drop (o + j * sz)).take ((n - j) * sz) = cs.drop (j * sz) := by
      rw [← hcs, List.drop_take, List.drop_drop]
      congr 1
      omega
    have hdl : (cs.drop (j * sz)).length = (n - j) * sz := by simp; omega
    have h1d : ∀ v ∈ cs.drop (j * sz), v.oneCell' = true := fun v hv => h1c v (List.mem_of_mem_drop hv)
    by_cases hroom : i + m + (n - j) ≤ c
    · have hle : (i + m + (n - j)) * sz ≤ c * sz := Nat.mul_le_mul_right _ hroom
      have s1 : ∀ q, ∃ w', (∀ ty t2, (Builtin.copy_ #[tS, t2] ty #[.slice (some ⟨b, o + (i + m) * sz, none⟩) (i + m + (n - j) - (i + m)) 0, .slice (some ⟨b, o + j * sz, none⟩) (n - j) 0]).run P (w.drewN (q + 1)) = .ok (goInt ((n - j : Nat) : Int)) w') ∧
          (∀ dc sc ty t2, (Builtin.copy_ #[tS, t2] ty #[.slice (some ⟨b, o + (i + m) * sz, none⟩) (i + m + (n - j) - (i + m)) dc, .slice (some ⟨b, o + j * sz, none⟩) (n - j) sc]).run P (w.drewN (q + 1)) = .ok (goInt ((n - j : Nat) : Int)) w') ∧
          Blk w' b (l.take (o + (i + m) * sz) ++ cs.drop (j * sz) ++ l.drop (o + (i + m) * sz + (n - j) * sz)) E ∧ Only1 w w' b := by
        intro q
        obtain ⟨W1, g1, g2, g3⟩ := run_copyL (ty := 0) (n := i + m + (n - j) - (i + m)) (n2 := n - j) (c := 0) (c2 := 0) (k := n - j) (o := o + (i + m) * sz) (os := o + j * sz) h (by simp only [Nat.min_def]; split <;> omega) (hb.drewN (q + 1)) (by omega) (hb.drewN (q + 1)) (by omega) (by rw [hd]; exact h1d)
        rw [hd] at g2
        exact ⟨W1, g1, fun dc sc => g1, g2, g3.frame, g3.size, g3.rest⟩
      obtain ⟨W1, s1⟩ := Classical.skolem.1 s1
      have s2 : ∀ q, ∃ w', (∀ dc ty t2, (Builtin.copy_ #[tS, t2] ty #[.slice (some ⟨b, o + i * sz, none⟩) (i + m + (n - j) - i) dc, .slice (some ⟨bs, os, none⟩) m c3]).run P (W1 q) = .ok (goInt (m : Int)) w') ∧
          Blk w' b (List.take (o + i * sz) (l.take (o + (i + m) * sz) ++ cs.drop (j * sz) ++ l.drop (o + (i + m) * sz + (n - j) * sz)) ++ vs ++ List.drop (o + i * sz + m * sz) (l.take (o + (i + m) * sz) ++ cs.drop (j * sz) ++ l.drop (o + (i + m) * sz + (n - j) * sz))) E ∧ Only1 w w' b := by
        intro q
        obtain ⟨_, _, g2, g3⟩ := s1 q
        have hbs1 : Blk (W1 q) bs ls Es := g3.of hbb hbs
        obtain ⟨W2, k1, k2, k3⟩ := run_copyL (ty := 0) (n := i + m + (n - j) - i) (n2 := m) (c := 0) (c2 := c3) (k := m) (o := o + i * sz) (os := os) h (by simp only [Nat.min_def]; split <;> omega) g2 (by simp only [List.length_append, List.length_take, List.length_drop]; omega) hbs1 hos (by rw [hvs]; exact h1v)
        rw [hvs] at k2
        exact ⟨W2, fun dc => k1, k2, g3.trans k3⟩
      obtain ⟨W2, s2⟩ := Classical.skolem.1 s2
      refine (W.shift b o n c i j bs os m c3 w W1 W2 hij hlt hm hroom hnm hnc (fun q lb cb => W.over (w.drewN q) ⟨b, o + (i + m) * sz, none⟩ ⟨bs, os, none⟩ lb cb m c3 (Ne.symm hbb) E Es _ _ (hb.drewN q).shape (hbs.drewN q).shape (by have := Nat.mul_le_mul_right sz (show 1 ≤ m by omega); omega) ((hb.drewN q).calm _) ((hb.drewN q).calm _)) (fun q ty dc sc => (s1 q).2.1 dc sc ty tS) (fun q ty dc => (s2 q).1 dc ty tS)).mono ?_
      rintro e' w'' ⟨rfl, q, rfl⟩
      obtain ⟨_, k2, h02⟩ := s2 q
      refine ⟨b, o, c, _, E, rfl, hroom, k2, ?_, ?_, .inl hsb, by rw [h02.size]; exact hb.lt, fun k _ hk => h02.frame k (by rintro rfl; exact hk hsb), by rw [h02.size]; exact Nat.le_refl _, h02.rest⟩
      · simp only [List.length_append, List.length_take, List.length_drop, hvl, hdl]; omega
      · have e1 : List.take (o + i * sz) (List.take (o + (i + m) * sz) l ++ List.drop (j * sz) cs ++ List.drop (o + (i + m) * sz + (n - j) * sz) l) = List.take (o + i * sz) l := by
          rw [List.append_assoc, List.take_append_of_le_length (by simp; omega), List.take_take]
          congr 1; omega
        have e2 : List.drop (o + i * sz + m * sz) (List.take (o + (i + m) * sz) l ++ List.drop (j * sz) cs ++ List.drop (o + (i + m) * sz + (n - j) * sz) l) = List.drop (j * sz) cs ++ List.drop (o + (i + m) * sz + (n - j) * sz) l := by
          rw [List.append_assoc]
          apply List.drop_left'
          simp; omega
        rw [e1, e2, List.append_assoc, List.drop_append_of_le_length (by simp; omega), List.drop_take, show o + i * sz - o = i * sz by omega, ht, htot]
        rw [← List.append_assoc, ← List.append_assoc, List.take_append_of_le_length (by simp; omega), List.take_of_length_le (by simp; omega)]
    · have hk : (i : Int) + (m : Int) + ((n - j : Nat) : Int) - (i : Int) = ((m + (n - j) : Nat) : Int) := by omega
      have hik : i + (m + (n - j)) = i + m + (n - j) := by omega
      have hio : o + i * sz ≤ l.length := by omega
      have hB : w.heap.size ≠ b := by have := hb.lt; omega
      have hBs : w.heap.size ≠ bs := by have := hbs.lt; omega
      have s1 : ∀ q, ∃ x : World × Nat × List Value, (∀ ty, (Builtin.append_ #[tS, tI] ty #[.slice (some ⟨b, o, none⟩) i c, .int .i64 ((m + (n - j) : Nat) : Int)]).run P (w.drewN q) = .ok (.slice (some ⟨w.heap.size, 0, none⟩) (i + m + (n - j)) x.2.1) x.1) ∧ i + m + (n - j) ≤ x.2.1 ∧ x.2.1 ≤ 9223372036854775807 ∧
          Blk x.1 w.heap.size (cs.take (i * sz) ++ x.2.2) e ∧ x.2.2.length = (x.2.1 - i) * sz ∧ New1 w x.1 := by
        intro q
        obtain ⟨W1, G, l', g1, g2, g2', g3, g4, g5⟩ := run_zeros_growL (w := w.drewN q) (n := i) (c := c) (k := m + (n - j)) (cs := cs.take (i * sz)) h hI (by omega) (by omega) (by rw [hik]; exact Nat.le_trans (Nat.mul_le_mul_right _ (by omega)) hfit) (by simp; omega) (.inr ⟨b, o, l, E, rfl, hb.drewN q, hio, ht⟩)
        rw [hik] at g1 g2
        exact ⟨(W1, G, l'), g1, g2, g2', g3, g4, g5.frame, g5.size, g5.rest⟩
      obtain ⟨X, s1⟩ := Classical.skolem.1 s1
      have s2 : ∀ q, ∃ w', (∀ dc ty t2, (Builtin.copy_ #[tS, t2] ty #[.slice (some ⟨w.heap.size, i * sz, none⟩) (i + m + (n - j) - i) dc, .slice (some ⟨bs, os, none⟩) m c3]).run P (X q).1 = .ok (goInt (m : Int)) w') ∧
          Blk w' w.heap.size (List.take (i * sz) (cs.take (i * sz) ++ (X q).2.2) ++ vs ++ List.drop (i * sz + m * sz) (cs.take (i * sz) ++ (X q).2.2)) e ∧ Blk w' b l E ∧ Only1 (X q).1 w' w.heap.size := by
        intro q
        obtain ⟨_, g2, _, g3, g4, g5⟩ := s1 q
        have hGm : ((X q).2.1 - i) * sz + i * sz = (X q).2.1 * sz := by rw [← Nat.add_mul, Nat.sub_add_cancel (by omega)]
        have hGn := Nat.mul_le_mul_right sz g2
        have hbs1 : Blk (X q).1 bs ls Es := by unfold Blk; rw [g5.frame bs hbs.lt]; exact hbs
        have hb1 : Blk (X q).1 b l E := by unfold Blk; rw [g5.frame b hb.lt]; exact hb
        obtain ⟨W2, k1, k2, k3⟩ := run_copyL (ty := 0) (n := i + m + (n - j) - i) (n2 := m) (c := 0) (c2 := c3) (k := m) (o := i * sz) (os := os) h (by simp only [Nat.min_def]; split <;> omega) g3 (by simp; omega) hbs1 hos (by rw [hvs]; exact h1v)
        rw [hvs] at k2
        exact ⟨W2, fun dc => k1, k2, k3.of (Ne.symm hB) hb1, k3⟩
      obtain ⟨W2, s2⟩ := Classical.skolem.1 s2
      have s3 : ∀ q, ∃ w', (∀ dc sc ty t2, (Builtin.copy_ #[tS, t2] ty #[.slice (some ⟨w.heap.size, (i + m) * sz, none⟩) (i + m + (n - j) - (i + m)) dc, .slice (some ⟨b, o + j * sz, none⟩) (n - j) sc]).run P (W2 q).drew = .ok (goInt ((n - j : Nat) : Int)) w') ∧
          Blk w' w.heap.size (List.take ((i + m) * sz) (List.take (i * sz) (cs.take (i * sz) ++ (X q).2.2) ++ vs ++ List.drop (i * sz + m * sz) (cs.take (i * sz) ++ (X q).2.2)) ++ cs.drop (j * sz) ++ List.drop ((i + m) * sz + (n - j) * sz) (List.take (i * sz) (cs.take (i * sz) ++ (X q).2.2) ++ vs ++ List.drop (i * sz + m * sz) (cs.take (i * sz) ++ (X q).2.2))) e ∧ Only1 (X q).1 w' w.heap.size := by
        intro q
        obtain ⟨_, g2, _, g3, g4, g5⟩ := s1 q
        obtain ⟨_, k2, k2', k3⟩ := s2 q
        have hGm : ((X q).2.1 - i) * sz + i * sz = (X q).2.1 * sz := by rw [← Nat.add_mul, Nat.sub_add_cancel (by omega)]
        have hGn := Nat.mul_le_mul_right sz g2
        obtain ⟨W3, j1, j2, j3⟩ := run_copyL (ty := 0) (n := i + m + (n - j) - (i + m)) (n2 := n - j) (c := 0) (c2 := 0) (k := n - j) (o := (i + m) * sz) (os := o + j * sz) h (by simp only [Nat.min_def]; split <;> omega) k2.drew (by simp only [List.length_append, List.length_take, List.length_drop]; omega) k2'.drew (by omega) (by rw [hd]; exact h1d)
        rw [hd] at j2
        exact ⟨W3, fun dc sc => j1, j2, (k3.trans (drew_only _ _)).trans j3⟩
      obtain ⟨W3, s3⟩ := Classical.skolem.1 s3
      refine (W.grow b o n c i j bs os m c3 w.heap.size (fun q => (X q).2.1) w (fun q => (X q).1) W2 W3 hij hlt hm hnc (by omega) hnm (fun q => (s1 q).2.1) (fun q => (s1 q).2.2.1) (fun q ty => by rw [hk]; exact (s1 q).1 ty) (fun q ty dc => (s2 q).1 dc ty tS) (fun q ty dc sc => (s3 q).1 dc sc ty tS)).mono ?_
      rintro e' w'' ⟨q, rfl, rfl⟩
      obtain ⟨_, g2, _, g3, g4, g5⟩ := s1 q
      obtain ⟨_, j2, h13⟩ := s3 q
      have hGm : ((X q).2.1 - i) * sz + i * sz = (X q).2.1 * sz := by rw [← Nat.add_mul, Nat.sub_add_cancel (by omega)]
      have hGn := Nat.mul_le_mul_right sz g2
      refine ⟨w.heap.size, 0, (X q).2.1, _, e, rfl, g2, j2, ?_, ?_, .inr rfl, by rw [h13.size, g5.size]; omega, fun k hk' _ => (h13.frame k (by omega)).trans (g5.frame k hk'), by rw [h13.size, g5.size]; omega, h13.rest.trans g5.rest⟩
      · simp only [List.length_append, List.length_take, List.length_drop, hvl, hdl]; omega
      · have e1 : List.take (i * sz) (List.take (i * sz) cs ++ (X q).2.2) = List.take (i * sz) cs := by
          rw [List.take_append_of_le_length (by simp; omega), List.take_of_length_le (by simp; omega)]
        have e2 : List.take ((i + m) * sz) (List.take (i * sz) (List.take (i * sz) cs ++ (X q).2.2) ++ vs ++ List.drop (i * sz + m * sz) (List.take (i * sz) cs ++ (X q).2.2)) = List.take (i * sz) cs ++ vs := by
          rw [e1]
          apply List.take_left'
          simp; omega
        rw [e2, List.drop_zero, htot, List.take_append_of_le_length (by simp; omega), List.take_of_length_le (by simp; omega)]
end
end Go.Proofs.Ythlpjdjipchdkaa.E

namespace Go.Proofs.Ythlpjdjipchdkaa.E
open Go Go.Proofs
set_option linter.unusedSimpArgs false
set_option linter.unusedVariables false
def hRep (t : Ty) (bytes : Nat) : HandE :=
  ⟨⟨[(false, .sl true t), (false, .int .i64), (false, .int .i64), (false, .sl true t)], [.sl true t]⟩, fun a => match a with
    | (xs, (i, (j, (ys, _)))) => br (decide (0 ≤ i) && decide (i < j) && leB j (List.length xs) && decide (j < i + (List.length ys : Int)) && decide ((List.length xs + List.length ys) * bytes ≤ 140737488355328)) (some ((List.take i.toNat xs ++ ys ++ List.drop j.toNat xs, ()), ())) none⟩
section
variable {P : Program} {T : Tab} {G : Glob} {f fo tS tI e : Nat} {bytes : Nat} {t : Ty}
theorem rep_hold (W : RepW P f fo tS tI t.size) (h : ElT P tS e t.size bytes) (hI : P.underlying tI = some (.int .i64)) (hu : u8T t = false) (hfl : t.flat = true) (xs ys : List (den t)) (i j : Int) (h0 : 0 ≤ i) (hij : i < j) (hj : j ≤ xs.length)
    (hm : j < i + ys.length) (hfit : (xs.length + ys.length) * bytes ≤ 140737488355328) :
    Hold P T G f [(false, .sl true t), (false, .int .i64), (false, .int .i64), (false, .sl true t)] [.sl true t] (xs, (i, (j, (ys, ())))) (xs.take i.toNat ++ ys ++ xs.drop j.toNat, ()) () := by
  intro C hP hT hG htk w vs Xs hh hn hz ha hX hnd hlt
  subst hP
  have hl := ArgsR.len ha
  match vs, Xs, hl, ha with
  | [v1, v2, v3, v4], [X1, X2, X3, X4], _, ⟨⟨cs1, r1, e1⟩, ⟨cs2, r2, e2⟩, ⟨cs3, r3, e3⟩, ⟨cs4, r4, e4⟩, _⟩ =>
    have r1 : Rep C.h (Sx C.L C.I false) false (.sl true t) xs cs1 X1 := r1
    have r2 : cs2 = [.int .i64 i] ∧ X2 = [] := r2
    have r3 : cs3 = [.int .i64 j] ∧ X3 = [] := r3
    have r4 : Rep C.h (Sx C.L C.I false) false (.sl true t) ys cs4 X4 := r4
    rw [← hh] at r1 r4
    obtain ⟨rfl, rfl⟩ := r2
    obtain ⟨rfl, rfl⟩ := r3
    obtain ⟨a1, c1, rfl, hc1, hs⟩ := own_sl hu r1
    obtain ⟨a4, c4, rfl, hc4, hv⟩ := own_sl hu r4
    rw [wrap_sl] at e1 e4
    rw [wrap_int] at e2 e3
    subst e1 e2 e3 e4
    obtain ⟨k, rfl⟩ : ∃ k : Nat, i = (k : Int) := ⟨i.toNat, by omega⟩
    obtain ⟨p, rfl⟩ : ∃ p : Nat, j = (p : Int) := ⟨j.toNat, by omega⟩
    simp only [Int.toNat_natCast]
    have hkp : k < p := by omega
    have hp : p ≤ xs.length := by omega
    have hm' : p < k + ys.length := by omega
    rcases hs with ⟨h1, _⟩ | ⟨b, o, l, E, X1', rfl, hb, ho, hr, rfl⟩
    · subst h1; simp at hp; omega
    rcases hv with ⟨h1, _⟩ | ⟨b3, o3, l3, E3, X4', rfl, hb3, ho3, hr3, rfl⟩
    · subst h1; simp at hm'; omega
    obtain rfl : X1' = [] := RL.noX (fun _ _ _ h => (Rep.flat hfl h).1) hr
    obtain rfl : X4' = [] := RL.noX (fun _ _ _ h => (Rep.flat hfl h).1) hr3
    have hne : b ≠ b3 := by
      simp only [List.flatten_cons, List.flatten_nil, List.append_nil, List.nil_append] at hnd
      rintro rfl
      simp at hnd
    have hXin : ∀ b', (b' = b ∨ b' = b3) → C.X b' ∧ b' < C.n := fun b' hb' => by
      have hm'' : b' ∈ [[b], [], [], [b3]].flatten := by simpa using hb'
      exact ⟨(hX b').2 hm'', hlt b' hm''⟩
    have hIb : ∀ b', Sx C.L C.I false b' → b' < C.n ∧ ¬ C.X b' := fun b' hb' => by
      rcases hb' with hb' | ⟨hb', _⟩
      · exact C.Iok b' hb'
      · cases hb'
    have hone : ∀ v ∈ (l.drop o).take (xs.length * t.size), v.oneCell' = true := RL.one (fun _ _ _ => Rep.one) hr
    have hone3 : ∀ v ∈ (l3.drop o3).take (ys.length * t.size), v.oneCell' = true := RL.one (fun _ _ _ => Rep.one) hr3
    have hle3 := Nat.mul_le_mul_right t.size hc4
    have hov3 : o3 + ys.length * t.size ≤ l3.length := by omega
    have hl1 := RL.len (fun _ _ _ => Rep.len) hr
    have hin : RowIn w t.size (some ⟨b, o, none⟩) xs.length c1 ((l.drop o).take (xs.length * t.size)) (fun q => q = b) := ⟨hl1, hc1, hone, .inr ⟨b, o, l, E, rfl, hb, ho, rfl, rfl⟩⟩
    refine (rep_cells W h hI hkp hp hm' hfit hin ⟨b3, o3, l3, E3, rfl, hb3, hov3, rfl, fun hs' => hne hs'.symm⟩ hone3).mono ?_
    rintro e' w' ⟨b', o', c, l', E', rfl, hNc, hb', ho', hcs, hbw, hbl, hfr, hgr, hrest⟩
    obtain ⟨Xa, Xr, hXe, ra, _⟩ := RL.cut (fun _ _ _ => Rep.len) k (by omega) hr
    obtain ⟨Xr', Xb, hXe', _, rb⟩ := RL.cut (fun _ _ _ => Rep.len) p hp hr
    obtain ⟨rfl, rfl⟩ := List.append_eq_nil_iff.1 hXe.symm
    obtain ⟨rfl, rfl⟩ := List.append_eq_nil_iff.1 hXe'.symm
    have hfrI : ∀ b'', Sx C.L C.I false b'' → Sx C.L C.I false b'' ∧ hpOf w' b'' = hpOf w b'' := fun b'' hb'' => by
      obtain ⟨g1, g2⟩ := hIb b'' hb''
      exact ⟨hb'', hfr b'' (by omega) (fun h => g2 (by rw [h]; exact (hXin b (.inl rfl)).1))⟩
    have ra' := RL.keepH hfrI (fun _ h => by cases h) ra
    have rb' := RL.keepH hfrI (fun _ h => by cases h) rb
    have ry' := RL.keepH hfrI (fun _ h => by cases h) hr3
    have hall := RL.append (RL.append ra' ry') rb'
    rw [← hcs] at hall
    simp only [List.nil_append] at hall
    have hq : (xs.take k ++ ys ++ xs.drop p).length = k + ys.length + (xs.length - p) := by simp; omega
    have hbw : b' = b ∨ w.heap.size = b' := hbw
    refine ⟨_, C.I, [.slice (some ⟨b', o', none⟩) (k + ys.length + (xs.length - p)) c], [[b']], [], rfl, rfl, ⟨⟨[.slice (some ⟨b', o', none⟩) (k + ys.length + (xs.length - p)) c], rep_row (w := w) hq hNc hb' ho' hall, rfl⟩, trivial⟩, rfl, ?_, ?_, fun b'' hb'' => ⟨by have := (C.Iok b'' hb'').1; omega, .inl hb''⟩, fun b'' hb'' => hb'', fun b'' hb'' hx'' => by
      rw [← hh]; exact hfr b'' (by omega) (fun h => hx'' (by rw [h]; exact (hXin b (.inl rfl)).1)), by omega, hrest.trans hz⟩
    · simp
    · intro b'' hb''
      obtain rfl : b'' = b' := by simpa using hb''
      rcases hbw with h1 | h1
      · obtain ⟨g1, g2⟩ := hXin b (.inl rfl)
        rw [← h1] at g1 g2
        exact ⟨fun h => (C.Iok b'' h).2 g1, fun h => (C.Lok b'' h).2 g1, by omega, .inl g1⟩
      · exact ⟨fun h => by have := (C.Iok b'' h).1; omega, fun h => by have := (C.Lok b'' h).1; omega, hbl, .inr (by omega)⟩
theorem hRep_ok (W : RepW P f fo tS tI t.size) (h : ElT P tS e t.size bytes) (hI : P.underlying tI = some (.int .i64)) (hu : u8T t = false) (hfl : t.flat = true) :
    ∀ a q o, (hRep t bytes).g a = some (q, o) → Hold P T G f (hRep t bytes).s.ps (hRep t bytes).s.rs a q o := by
  rintro ⟨xs, i, j, ys, u⟩ q o he
  obtain ⟨h1, h2⟩ | ⟨_, h2⟩ := br_some he
  case inr => cases h2
  simp only [Bool.and_eq_true, decide_eq_true_eq, leB_iff] at h1
  obtain ⟨rfl, rfl⟩ := Prod.mk.inj (Option.some.inj h2)
  obtain ⟨⟨⟨⟨g1, g2⟩, g3, g4⟩, g5⟩, g6⟩ := h1
  exact rep_hold W h hI hu hfl xs ys i j g1 g2 g4 g5 g6
end
end Go.Proofs.Ythlpjdjipchdkaa.E

