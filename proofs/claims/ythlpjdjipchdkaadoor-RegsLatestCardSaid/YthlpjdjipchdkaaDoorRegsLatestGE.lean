/- A plain evaluator of the program's form on data by value, and the proof that it is sound. No condition. -/
import Derived.Test.YthlpjdjipchdkaaDoorRegsLatestGD
import Derived.Calls
import Derived.Laws.AppendOwn
import Derived.Laws.Strings
import Derived.Laws.StructEq
import Derived.Laws.MakeOwn
import Derived.Laws.BytesArg
import Derived.Lib.ConvBytes
import Derived.Laws.Tables
import Derived.Laws.NewFold
import Derived.WideKeyRuns
import Derived.MapKept
import Derived.Orders
import Derived.ProofKit
import Derived.SizedLaws
import Derived.Lib.AppendZerosOnto
import Derived.Lib.Overlaps
import Derived.Laws.Externs
import Derived.Laws.IdiomCopy
import Derived.Deep.AppendSrc
import Derived.Shelf.RegionOpenPlain
import Derived.WalkKit
import Derived.Lib.Walk
import Derived.Lib.SliceRun
import Derived.Lib.JoinLaws
import Derived.Lib.Bytealg

namespace Go.Proofs.YthlpjdjipchdkaaDoor.E
open Go Go.Proofs Go.Shelf Go.RowKit Go.Lib
set_option linter.unusedSimpArgs false
set_option linter.unusedVariables false
structure ElT (P : Program) (tS e : TypeId) (sz bytes : Nat) : Prop where
  und : P.underlying tS = some (.slice e)
  info : ∃ i z, P.info? e = some i ∧ i.zero = some z ∧ i.size = sz ∧ i.bytes = bytes ∧ z.cells.size = sz ∧ z.cells.toList.all (·.oneCell') = true
  pos : 0 < sz
  bpos : 0 < bytes
section
variable {P : Program} {w : World} {tS e : TypeId} {sz bytes : Nat}
theorem ElT.size (h : ElT P tS e sz bytes) (w : World) : (sizeOf e).run P w = .ok sz w := by
  obtain ⟨i, z, h1, _, h3, _⟩ := h.info
  simp [sizeOf, typeInfo, h1, h3]
def Blk (w : World) (b : Nat) (l : List Value) (E : TypeId) : Prop := hpOf w b = some (.cells l.toArray E (0, 0))
structure Only1 (w w' : World) (b : Nat) : Prop where
  frame : ∀ k, k ≠ b → hpOf w' k = hpOf w k
  size : w'.heap.size = w.heap.size
  rest : restOf w' = restOf w
structure New1 (w w' : World) : Prop where
  frame : ∀ k, k < w.heap.size → hpOf w' k = hpOf w k
  size : w'.heap.size = w.heap.size + 1
  rest : restOf w' = restOf w
end
end Go.Proofs.YthlpjdjipchdkaaDoor.E

namespace Go.Proofs.YthlpjdjipchdkaaDoor.E
open Go Go.Proofs Go.Shelf Go.RowKit Go.Lib
set_option linter.unusedSimpArgs false
set_option linter.unusedVariables false
structure InsW (P : Program) (f fo tS tI sz : Nat) : Prop where
  none : ∀ (a : Option Addr) (n c i : Nat) (va : Option Addr) (vc : Nat) (w : World), i ≤ n → n ≤ c → n ≤ 140737488355328 →
    Calls P f #[.slice a n c, .int .i64 i, .slice va 0 vc] w fun e w' => e = .returned (.slice a n c) ∧ w' = w
  last : ∀ (a : Option Addr) (n c m vb vo vc : Nat) (w W : World) (r : Value), 0 < m → n ≤ c → n + m ≤ 140737488355328 →
    (∀ ty, (Builtin.append_ #[tS, tS] ty #[.slice a n c, .slice (some ⟨vb, vo, .none⟩) m vc]).run P w = .ok r W) →
    Calls P f #[.slice a n c, .int .i64 n, .slice (some ⟨vb, vo, .none⟩) m vc] w fun e w' => e = .returned r ∧ w' = W
  shift : ∀ (b off n c i vb vo m vc : Nat) (w W1 W2 : World), i < n → 0 < m → n + m ≤ c → n + m ≤ 140737488355328 →
    (∀ lb cb, (callFunc fo #[.slice (some ⟨vb, vo, .none⟩) m vc, .slice (some ⟨b, off + (i + m) * sz, .none⟩) lb cb]).run P w = .ok (.value (.bool false)) w) →
    (∀ ty dc sc, (Builtin.copy_ #[tS, tS] ty #[.slice (some ⟨b, off + (i + m) * sz, .none⟩) (n + m - (i + m)) dc, .slice (some ⟨b, off + i * sz, .none⟩) (n + m - i) sc]).run P w.drew = .ok (goInt ((n - i : Nat) : Int)) W1) →
    (∀ ty dc, (Builtin.copy_ #[tS, tS] ty #[.slice (some ⟨b, off + i * sz, .none⟩) (n + m - i) dc, .slice (some ⟨vb, vo, .none⟩) m vc]).run P W1 = .ok (goInt (m : Int)) W2) →
    Calls P f #[.slice (some ⟨b, off, .none⟩) n c, .int .i64 i, .slice (some ⟨vb, vo, .none⟩) m vc] w fun e w' => e = .returned (.slice (some ⟨b, off, .none⟩) (n + m) c) ∧ w' = W2
  grow : ∀ (b off n c i vb vo m vc B G : Nat) (w W1 W2 W3 : World), i < n → 0 < m → n ≤ c → c < n + m → n + m ≤ 140737488355328 → n + m ≤ G → G ≤ 9223372036854775807 →
    (∀ ty, (Builtin.append_ #[tS, tI] ty #[.slice (some ⟨b, off, .none⟩) i c, .int .i64 ((n : Int) + (m : Int) - (i : Int))]).run P w = .ok (.slice (some ⟨B, 0, .none⟩) (n + m) G) W1) →
    (∀ ty dc, (Builtin.copy_ #[tS, tS] ty #[.slice (some ⟨B, i * sz, .none⟩) (n + m - i) dc, .slice (some ⟨vb, vo, .none⟩) m vc]).run P W1 = .ok (goInt (m : Int)) W2) →
    (∀ ty dc sc, (Builtin.copy_ #[tS, tS] ty #[.slice (some ⟨B, (i + m) * sz, .none⟩) (n + m - (i + m)) dc, .slice (some ⟨b, off + i * sz, .none⟩) (n - i) sc]).run P W2.drew = .ok (goInt ((n - i : Nat) : Int)) W3) →
    Calls P f #[.slice (some ⟨b, off, .none⟩) n c, .int .i64 i, .slice (some ⟨vb, vo, .none⟩) m vc] w fun e w' => e = .returned (.slice (some ⟨B, 0, .none⟩) (n + m) G) ∧ w' = W3
  over : ∀ (w : World) (a b : Addr) (la ca lb cb : Nat), a.block ≠ b.block → ∀ (tA tB : TypeId) (kA kB : Nat), w.shape? a.block = some (tA, kA) → w.shape? b.block = some (tB, kB) → kB ≠ 0 →
    w.frozen? a = false → w.frozen? { block := a.block, off := kA } = false → (callFunc fo #[.slice (some a) la ca, .slice (some b) lb cb]).run P w = .ok (.value (.bool false)) w
structure DelW (P : Program) (f tS sz : Nat) : Prop where
  none : ∀ (b off n c i : Nat) (w : World), i ≤ n → n ≤ c → n ≤ 140737488355328 →
    Calls P f #[.slice (some ⟨b, off, .none⟩) n c, .int .i64 i, .int .i64 i] w fun e w' => e = .returned (.slice (some ⟨b, off, .none⟩) n c) ∧ w' = w
  some : ∀ (b off n c i j : Nat) (w W1 W2 : World), i < j → j ≤ n → n ≤ c → n ≤ 140737488355328 → ∀ A : Addr, (if c = j then Option.some (⟨b, off, .none⟩ : Addr) else Option.some ⟨b, off + j * sz, .none⟩) = Option.some A →
    (∀ ty, (Builtin.append_ #[tS, tS] ty #[.slice (Option.some ⟨b, off, .none⟩) i c, .slice (Option.some A) (n - j) (c - j)]).run P w.drew = .ok (.slice (Option.some ⟨b, off, .none⟩) (i + (n - j)) c) W1) →
    (∀ ty, (Builtin.clear_ #[tS] ty #[.slice (Option.some ⟨b, off + (i + (n - j)) * sz, .none⟩) (n - (i + (n - j))) (c - (i + (n - j)))]).run P W1 = .ok (.tuple #[]) W2) →
    Calls P f #[.slice (Option.some ⟨b, off, .none⟩) n c, .int .i64 i, .int .i64 j] w fun e w' => e = .returned (.slice (Option.some ⟨b, off, .none⟩) (i + (n - j)) c) ∧ w' = W2
section
variable {P : Program} {w : World} {tS tI e f fo : Nat} {sz bytes : Nat}
theorem Blk.lt {b : Nat} {l : List Value} {E : TypeId} (h : Blk w b l E) : b < w.heap.size := by
  unfold Blk hpOf at h
  exact (Array.getElem?_eq_some_iff.1 h).1
theorem Blk.shape {b : Nat} {l : List Value} {E : TypeId} (h : Blk w b l E) : w.shape? b = some (E, l.length) := by
  have : w.heap[b]? = some (.cells l.toArray E (0, 0)) := h
  unfold World.shape?; rw [this]; rfl
theorem Blk.calm {b : Nat} {l : List Value} {E : TypeId} (h : Blk w b l E) (o : Nat) : w.frozen? ⟨b, o, none⟩ = false := by
  have : w.heap[b]? = some (.cells l.toArray E (0, 0)) := h
  unfold World.frozen?; simp [this]
theorem Only1.of {w' : World} {b b' : Nat} {l : List Value} {E : TypeId} (h : Only1 w w' b) (hb : b' ≠ b) (hl : Blk w b' l E) : Blk w' b' l E := by
  unfold Blk; rw [h.frame b' hb]; exact hl
theorem Only1.trans {w' w'' : World} {b : Nat} (h : Only1 w w' b) (h' : Only1 w' w'' b) : Only1 w w'' b :=
  ⟨fun k hk => (h'.frame k hk).trans (h.frame k hk), h'.size.trans h.size, h'.rest.trans h.rest⟩
theorem Blk.drew {b : Nat} {l : List Value} {E : TypeId} (h : Blk w b l E) : Blk w.drew b l E := h
end
end Go.Proofs.YthlpjdjipchdkaaDoor.E

namespace Go.Proofs.YthlpjdjipchdkaaDoor.E
open Go Go.Proofs
set_option linter.unusedSimpArgs false
set_option linter.unusedVariables false
section
variable {P : Program} {T : Tab} {G : Glob}
theorem ArgsR.len {h : Hp} {L I : Set'} : ∀ {ps : List (Bool × Ty)} {a : denL (ps.map (·.2))} {vs : List Value} {Xs : List (List Nat)}, ArgsR h L I ps a vs Xs → vs.length = ps.length ∧ Xs.length = ps.length
  | [], _, [], [], _ => ⟨rfl, rfl⟩
  | [], _, [], _ :: _, h => h.elim
  | [], _, _ :: _, _, h => h.elim
  | _ :: _, _, [], _, h => h.elim
  | _ :: _, _, _ :: _, [], h => h.elim
  | _ :: ps, (_, _), _ :: vs, _ :: Xs, h => by
    obtain ⟨h1, h2⟩ := ArgsR.len h.2
    exact ⟨by simp [h1], by simp [h2]⟩
theorem RL.cut {α : Type} {R : α → List Value → List Nat → Prop} {s : Nat} (hl : ∀ x c X, R x c X → c.length = s) {xs : List α} {cs : List Value} {X : List Nat} (i : Nat) (hi : i ≤ xs.length) (hr : RL R xs cs X) :
    ∃ X1 X2, X = X1 ++ X2 ∧ RL R (xs.take i) (cs.take (i * s)) X1 ∧ RL R (xs.drop i) (cs.drop (i * s)) X2 := by
  rw [← List.take_append_drop i xs] at hr
  obtain ⟨c1, c2, X1, X2, e1, e2, e3, e4⟩ := RL.split hr
  have hlen := RL.len hl e3
  have : (xs.take i).length = i := by simp; omega
  rw [this] at hlen
  refine ⟨X1, X2, e2, ?_, ?_⟩
  · rw [e1, List.take_left' hlen]; exact e3
  · rw [e1, List.drop_left' hlen]; exact e4
variable {f fo tS tI e : Nat} {bytes : Nat} {t : Ty}
end
end Go.Proofs.YthlpjdjipchdkaaDoor.E

namespace Go.Proofs.YthlpjdjipchdkaaDoor.E
open Go Go.Proofs
set_option linter.unusedSimpArgs false
set_option linter.unusedVariables false
section
variable {P : Program} {T : Tab} {G : Glob} {f fo tS tI e : Nat} {bytes : Nat} {t : Ty}
end
end Go.Proofs.YthlpjdjipchdkaaDoor.E

namespace Go.Proofs.YthlpjdjipchdkaaDoor.E
open Go Go.Proofs Go.Shelf Go.RowKit Go.Lib
set_option linter.unusedSimpArgs false
set_option linter.unusedVariables false
structure RepW (P : Program) (f fo tS tI sz : Nat) : Prop where
  last : ∀ (b off n c i m vb vo vc : Nat) (ra : Option Addr) (rc : Nat) (w W : World), i < n → n < i + m → n ≤ c → n + m ≤ 140737488355328 →
    (∀ ty, (Builtin.append_ #[tS, tS] ty #[.slice (some ⟨b, off, .none⟩) i c, .slice (some ⟨vb, vo, .none⟩) m vc]).run P w = .ok (.slice ra (i + m) rc) W) →
    Calls P f #[.slice (some ⟨b, off, .none⟩) n c, .int .i64 i, .int .i64 n, .slice (some ⟨vb, vo, .none⟩) m vc] w fun e w' => e = .returned (.slice ra (i + m) rc) ∧ w' = W
  shift : ∀ (b off n c i j vb vo m vc : Nat) (w : World) (W1 W2 : Nat → World), i < j → j < n → j < i + m → i + m + (n - j) ≤ c → n + m ≤ 140737488355328 → n ≤ c →
    (∀ q lb cb, (callFunc fo #[.slice (some ⟨b, off + (i + m) * sz, .none⟩) lb cb, .slice (some ⟨vb, vo, .none⟩) m vc]).run P (w.drewN q) = .ok (.value (.bool false)) (w.drewN q)) →
    (∀ q ty dc sc, (Builtin.copy_ #[tS, tS] ty #[.slice (some ⟨b, off + (i + m) * sz, .none⟩) (i + m + (n - j) - (i + m)) dc, .slice (some ⟨b, off + j * sz, .none⟩) (n - j) sc]).run P (w.drewN (q + 1)) = .ok (goInt ((n - j : Nat) : Int)) (W1 q)) →
    (∀ q ty dc, (Builtin.copy_ #[tS, tS] ty #[.slice (some ⟨b, off + i * sz, .none⟩) (i + m + (n - j) - i) dc, .slice (some ⟨vb, vo, .none⟩) m vc]).run P (W1 q) = .ok (goInt (m : Int)) (W2 q)) →
    Calls P f #[.slice (some ⟨b, off, .none⟩) n c, .int .i64 i, .int .i64 j, .slice (some ⟨vb, vo, .none⟩) m vc] w fun e w' => e = .returned (.slice (some ⟨b, off, .none⟩) (i + m + (n - j)) c) ∧ ∃ q, w' = W2 q
  grow : ∀ (b off n c i j vb vo m vc B : Nat) (G : Nat → Nat) (w : World) (W1 W2 W3 : Nat → World), i < j → j < n → j < i + m → n ≤ c → c < i + m + (n - j) → n + m ≤ 140737488355328 → (∀ q, i + m + (n - j) ≤ G q) → (∀ q, G q ≤ 9223372036854775807) →
    (∀ q ty, (Builtin.append_ #[tS, tI] ty #[.slice (some ⟨b, off, .none⟩) i c, .int .i64 ((i : Int) + (m : Int) + ((n - j : Nat) : Int) - (i : Int))]).run P (w.drewN q) = .ok (.slice (some ⟨B, 0, .none⟩) (i + m + (n - j)) (G q)) (W1 q)) →
    (∀ q ty dc, (Builtin.copy_ #[tS, tS] ty #[.slice (some ⟨B, i * sz, .none⟩) (i + m + (n - j) - i) dc, .slice (some ⟨vb, vo, .none⟩) m vc]).run P (W1 q) = .ok (goInt (m : Int)) (W2 q)) →
    (∀ q ty dc sc, (Builtin.copy_ #[tS, tS] ty #[.slice (some ⟨B, (i + m) * sz, .none⟩) (i + m + (n - j) - (i + m)) dc, .slice (some ⟨b, off + j * sz, .none⟩) (n - j) sc]).run P (W2 q).drew = .ok (goInt ((n - j : Nat) : Int)) (W3 q)) →
    Calls P f #[.slice (some ⟨b, off, .none⟩) n c, .int .i64 i, .int .i64 j, .slice (some ⟨vb, vo, .none⟩) m vc] w fun e w' => ∃ q, e = .returned (.slice (some ⟨B, 0, .none⟩) (i + m + (n - j)) (G q)) ∧ w' = W3 q
  over : ∀ (w : World) (a b : Addr) (la ca lb cb : Nat), a.block ≠ b.block → ∀ (tA tB : TypeId) (kA kB : Nat), w.shape? a.block = some (tA, kA) → w.shape? b.block = some (tB, kB) → kB ≠ 0 →
    w.frozen? a = false → w.frozen? { block := a.block, off := kA } = false → (callFunc fo #[.slice (some a) la ca, .slice (some b) lb cb]).run P w = .ok (.value (.bool false)) w
section
variable {P : Program} {w : World} {tS tI e f fo : Nat} {sz bytes : Nat}
theorem Blk.drewN {b : Nat} {l : List Value} {E : TypeId} (h : Blk w b l E) (q : Nat) : Blk (w.drewN q) b l E := h
end
end Go.Proofs.YthlpjdjipchdkaaDoor.E

namespace Go.Proofs.YthlpjdjipchdkaaDoor.E
open Go Go.Proofs
set_option linter.unusedSimpArgs false
set_option linter.unusedVariables false
section
variable {P : Program} {T : Tab} {G : Glob} {f fo tS tI e : Nat} {bytes : Nat} {t : Ty}
end
end Go.Proofs.YthlpjdjipchdkaaDoor.E

