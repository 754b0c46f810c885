/- The forms of the functions, and plain laws on what they come to. No condition. -/
import Derived.Test.YtnffdeokhcojfaaM

namespace Go.Proofs.Ytnffdeokhcojfaa.E
open Go
set_option linter.unusedSimpArgs false
set_option linter.unusedVariables false

def bitR (n : Nat) : Nat := n / 2 ^^^ (if n % 2 = 1 then 3988292384 else 0)

def itR : Nat → Nat → Nat
  | 0, n => n
  | r + 1, n => itR r (bitR n)

theorem bitR_lt {n : Nat} (h : n < 4294967296) : bitR n < 4294967296 := by
  unfold bitR
  apply xor_lt (by omega)
  split <;> omega

theorem itR_lt : ∀ (r : Nat) {n : Nat}, n < 4294967296 → itR r n < 4294967296
  | 0, _, h => h
  | r + 1, _, h => itR_lt r (bitR_lt h)

theorem bitR_xor (a b : Nat) : bitR (a ^^^ b) = bitR a ^^^ bitR b := by
  unfold bitR
  have e1 : (a ^^^ b) / 2 = a / 2 ^^^ b / 2 := by
    have := Nat.shiftRight_xor_distrib (i := 1) (a := a) (b := b)
    simpa [Nat.shiftRight_eq_div_pow] using this
  have e2 : (a ^^^ b) % 2 = a % 2 ^^^ b % 2 := Nat.xor_mod_two_pow (n := 1)
  rw [e1, e2]
  have ha : a % 2 = 0 ∨ a % 2 = 1 := by omega
  have hb : b % 2 = 0 ∨ b % 2 = 1 := by omega
  generalize a / 2 = A
  generalize b / 2 = B
  rcases ha with ha | ha <;> rcases hb with hb | hb <;> rw [ha, hb] <;> simp only [Nat.xor_self, Nat.zero_xor, Nat.xor_zero, if_true, if_false, Nat.zero_ne_one, Nat.one_ne_zero]
  · ac_rfl
  · ac_rfl
  · have : A ^^^ 3988292384 ^^^ (B ^^^ 3988292384) = (3988292384 ^^^ 3988292384) ^^^ (A ^^^ B) := by ac_rfl
    rw [this, Nat.xor_self, Nat.zero_xor]

theorem itR_xor : ∀ (r a b : Nat), itR r (a ^^^ b) = itR r a ^^^ itR r b
  | 0, _, _ => rfl
  | r + 1, a, b => by simp only [itR]; rw [bitR_xor, itR_xor r]

theorem nib_itR (v : Nat) : itR 4 v = nib v := by
  have hs : v = (16 * (v / 16)) ^^^ (v % 16) := by
    have := Nat.two_pow_add_eq_or_of_lt (i := 4) (b := v % 16) (by omega) (v / 16)
    have h2 : (16 * (v / 16)) ^^^ (v % 16) = (16 * (v / 16)) ||| (v % 16) := by
      apply Nat.eq_of_testBit_eq
      intro i
      rw [Nat.testBit_xor, Nat.testBit_or]
      by_cases hi : i < 4
      · have : Nat.testBit (16 * (v / 16)) i = false := by
          rw [show 16 = 2 ^ 4 from rfl, Nat.testBit_two_pow_mul]
          simp; omega
        rw [this]; simp
      · have : Nat.testBit (v % 16) i = false := by
          apply Nat.testBit_lt_two_pow
          have : 2 ^ 4 ≤ 2 ^ i := Nat.pow_le_pow_right (by omega) (by omega)
          omega
        rw [this]; simp
    rw [h2, ← this]
    omega
  have e1 : itR 4 (16 * (v / 16)) = v / 16 := by
    have h2 : ∀ x, bitR (2 * x) = x := fun x => by
      unfold bitR; rw [if_neg (by omega), Nat.xor_zero]; omega
    show bitR (bitR (bitR (bitR (16 * (v / 16))))) = _
    rw [show 16 * (v / 16) = 2 * (2 * (2 * (2 * (v / 16)))) by omega, h2, h2, h2, h2]
  have e2 : itR 4 (v % 16) = tabN.getD (v % 16) 0 := by
    have key : ((List.range 16).all fun i => Nat.beq (itR 4 i) (tabN.getD i 0)) = true := by kernel_rfl
    exact Nat.eq_of_beq_eq_true (List.all_eq_true.1 key (v % 16) (List.mem_range.2 (by omega)))
  conv => lhs; rw [hs]
  rw [itR_xor, e1, e2]
  rfl

theorem itR_add : ∀ (r s n : Nat), itR (r + s) n = itR s (itR r n)
  | 0, s, n => by simp [itR]
  | r + 1, s, n => by rw [show r + 1 + s = (r + s) + 1 by omega]; exact itR_add r s (bitR n)

theorem itR8 (v : Nat) : itR 8 v = nib (nib v) := by rw [show 8 = 4 + 4 from rfl, itR_add, nib_itR, nib_itR]

theorem L30_2_eq (k : Nat) : ∀ (r m n : Nat), r ≤ 8 → r < m → n < 4294967296 → L30_2 k m ((n : Int), (((8 - r : Nat) : Int), ())) = some (.brk (((itR r n : Nat) : Int), ((8 : Int), ())))
  | _, 0, _, _, h, _ => by omega
  | 0, m + 1, n, h1, h2, h3 => by rw [L30_2_step, br_f (by kernel_rfl)]; rfl
  | r + 1, m + 1, n, h1, h2, h3 => by
    rw [L30_2_step, br_t (decide_eq_true (by omega)), IntWalk.i64_quo (n : Int) 2 ⟨by omega, by omega, by omega⟩, IntWalk.i64_in (((8 - (r + 1) : Nat) : Int) + 1) ⟨by omega, by omega⟩, show ((8 - (r + 1) : Nat) : Int) + 1 = ((8 - r : Nat) : Int) by omega]
    have e : ((n : Int) / 2) = ((n / 2 : Nat) : Int) := by omega
    rw [Int.tmod_eq_emod_of_nonneg (by omega), e]
    by_cases h : n % 2 = 1
    · rw [br_t (by simp only [beq_iff_eq]; omega), show (3988292384 : Int) = ((3988292384 : Nat) : Int) from rfl, xor64 _ _ (by omega) (by omega)]
      have hb : bitR n = n / 2 ^^^ 3988292384 := by unfold bitR; rw [if_pos h]
      rw [← hb]
      exact L30_2_eq k r m (bitR n) (by omega) (by omega) (bitR_lt h3)
    · rw [br_f (by simp only [beq_eq_false_iff_ne, ne_eq]; omega)]
      have hb : bitR n = n / 2 := by unfold bitR; rw [if_neg h, Nat.xor_zero]
      rw [← hb]
      exact L30_2_eq k r m (bitR n) (by omega) (by omega) (bitR_lt h3)

theorem L30_0_eq (q : Nat) (l : List Int) (hb : Byt l) (hl : l.length ≤ 1000000) : ∀ (m i n : Nat), i ≤ l.length → l.length - i < m → n < 4294967296 →
    L30_0 (q + 9) l m ((n : Int), ((i : Int), ())) = some (.brk ((((l.drop i).foldl gg n : Nat) : Int), ((l.length : Int), ())))
  | 0, i, n, h1, h2, h3 => by omega
  | m + 1, i, n, h1, h2, h3 => by
    rw [L30_0_step]
    by_cases h : i < l.length
    · have hx := hb (l.getD i 0) (by simp [List.getD, h])
      rw [br_t (decide_eq_true (by omega)), br_t (inB_t ⟨by omega, by omega⟩), Int.toNat_natCast, getD_drop l i h]
      generalize l.getD i 0 = x at *
      obtain ⟨x, rfl⟩ : ∃ n : Nat, x = (n : Int) := ⟨x.toNat, by omega⟩
      have hx6 : x < 4294967296 := by omega
      have h1x := xor_lt h3 hx6
      rw [IntWalk.i64_in (x : Int) ⟨by omega, by omega⟩, xor64 n x h3 hx6]
      have h2' : L30_2 (q + 9) (q + 9) (((n ^^^ x : Nat) : Int), ((0 : Int), ())) = some (.brk (((itR 8 (n ^^^ x) : Nat) : Int), ((8 : Int), ()))) := L30_2_eq (q + 9) 8 (q + 9) (n ^^^ x) (by omega) (by omega) h1x
      rw [h2', bdL_b]
      dsimp only
      rw [IntWalk.i64_in _ ⟨by omega, by omega⟩, show ((i : Int) + 1) = ((i + 1 : Nat) : Int) by omega, itR8]
      exact L30_0_eq q l hb hl m (i + 1) (gg n (x : Int)) (by omega) (by omega) (gg_lt h3 hx)
    · have : i = l.length := by omega
      subst this
      rw [br_f (decide_eq_false (by omega))]
      simp

theorem F30_eq (K : Nat) (l : List Int) (hb : Byt l) (hl : l.length ≤ 1000000) (hK : l.length + 12 ≤ K) : F30 K l = some (((sumN l : Int), ()), ()) := by
  obtain ⟨k, rfl⟩ : ∃ k, K = k + 10 := ⟨K - 10, by omega⟩
  rw [F30_step]
  have h2 : L30_0 (k + 9) l (k + 9) ((4294967295 : Int), ((0 : Int), ())) = some (.brk (((l.foldl gg 4294967295 : Nat) : Int), ((l.length : Int), ()))) := L30_0_eq k l hb hl (k + 9) 0 4294967295 (by omega) (by omega) (by omega)
  rw [h2, bdL_b]
  dsimp only
  have hf := fold_lt l 4294967295 hb (by omega)
  rw [show (4294967295 : Int) = ((4294967295 : Nat) : Int) from rfl, xor64 _ _ hf (by omega), Nat.xor_comm]
  rfl

theorem F51_eq (k n : Nat) (h : n < 9223372036854775808) : F51 (k + 1) (n : Int) = some ((put4 n, ()), ()) := by
  rw [F51_step]
  rw [IntWalk.i64_quo (n : Int) 256 ⟨by omega, by omega, by omega⟩, IntWalk.i64_quo (n : Int) 65536 ⟨by omega, by omega, by omega⟩, IntWalk.i64_quo (n : Int) 16777216 ⟨by omega, by omega, by omega⟩]
  rw [Int.tmod_eq_emod_of_nonneg (by omega), Int.tmod_eq_emod_of_nonneg (by omega), Int.tmod_eq_emod_of_nonneg (by omega), Int.tmod_eq_emod_of_nonneg (by omega)]
  simp only [IntKind.wrap_u8]
  unfold put4
  simp only [Prod.mk.injEq, Option.some.injEq, List.cons.injEq, and_true]
  refine ⟨by omega, by omega, by omega, by omega⟩

theorem F52_eq (k : Nat) (l : List Int) (hb : Byt l) (h : 4 ≤ l.length) : F52 (k + 1) l = some (((get4 l : Int), ()), ()) := by
  rw [F52_step, br_t (inB_t ⟨by omega, by omega⟩), br_t (inB_t ⟨by omega, by omega⟩), br_t (inB_t ⟨by omega, by omega⟩), br_t (inB_t ⟨by omega, by omega⟩)]
  have hx : ∀ i, i < l.length → ∃ n : Nat, l.getD i 0 = (n : Int) ∧ n < 256 := fun i hi => by
    have := hb (l.getD i 0) (by simp [List.getD, hi])
    exact ⟨(l.getD i 0).toNat, by omega, by omega⟩
  obtain ⟨a, ea, ha⟩ := hx 0 (by omega)
  obtain ⟨b, eb, hb'⟩ := hx 1 (by omega)
  obtain ⟨c, ec, hc⟩ := hx 2 (by omega)
  obtain ⟨d, ed, hd⟩ := hx 3 (by omega)
  unfold get4
  rw [ea, eb, ec, ed]
  simp only [Int.toNat_natCast]
  rw [IntWalk.i64_in (a : Int) ⟨by omega, by omega⟩, IntWalk.i64_in (b : Int) ⟨by omega, by omega⟩, IntWalk.i64_in (c : Int) ⟨by omega, by omega⟩, IntWalk.i64_in (d : Int) ⟨by omega, by omega⟩]
  rw [IntWalk.i64_in (256 * (b : Int)) ⟨by omega, by omega⟩, IntWalk.i64_in (65536 * (c : Int)) ⟨by omega, by omega⟩, IntWalk.i64_in (16777216 * (d : Int)) ⟨by omega, by omega⟩]
  rw [IntWalk.i64_in ((a : Int) + 256 * (b : Int)) ⟨by omega, by omega⟩, IntWalk.i64_in ((a : Int) + 256 * (b : Int) + 65536 * (c : Int)) ⟨by omega, by omega⟩, IntWalk.i64_in _ ⟨by omega, by omega⟩]
  congr 3
  omega

theorem F26_eq (K : Nat) (l : List Int) (hb : Byt l) (hl : l.length ≤ 65536) (hK : l.length + 40 ≤ K) : F26 K l = some ((frame l, (true, ())), ()) := by
  obtain ⟨k, rfl⟩ : ∃ k, K = k + 2 := ⟨K - 2, by omega⟩
  have hs := sum_lt hb
  rw [F26_step, br_f (decide_eq_false (by omega)), F51_eq k _ (by omega), bd_s, F30_eq (k + 1) l hb (by omega) (by omega), bd_s]
  dsimp only
  rw [F51_eq k _ (by omega), bd_s, br_t (decide_eq_true (by simp [put4])), br_t (decide_eq_true (by simp [put4]; omega))]
  rfl

theorem F27_eq (K : Nat) (b : List Int) (a : Int) (hb : Byt b) (hl : b.length ≤ 1000000) (hK : b.length + 50 ≤ K) :
    F27 K b a = some (((nextS b a).1, ((nextS b a).2.1, ((nextS b a).2.2, ()))), ()) := by
  obtain ⟨k, rfl⟩ : ∃ k, K = k + 2 := ⟨K - 2, by omega⟩
  rw [F27_step]
  unfold nextS
  by_cases h0 : a < 0 ∨ a > b.length
  · rw [if_pos h0, br_t]
    rcases h0 with h | h
    · rw [decide_eq_true h]; rfl
    · by_cases h' : a < 0
      · rw [decide_eq_true h']; rfl
      · rw [decide_eq_false h']; exact decide_eq_true h
  · rw [if_neg h0, br_f (by rw [decide_eq_false (by omega)]; exact decide_eq_false (by omega)), br_t (by simp [leB]; omega)]
    have hbr : Byt (b.drop a.toNat) := hb.drop _
    have hrl : (b.drop a.toNat).length ≤ b.length := by simp
    generalize hrest : b.drop a.toNat = rest at *
    dsimp only
    by_cases h8 : rest.length < 8
    · rw [if_pos h8, br_t (decide_eq_true (by omega))]
    · rw [if_neg h8, br_f (decide_eq_false (by omega)), F52_eq k rest hbr (by omega), bd_s]
      dsimp only
      have hg := get4_lt hbr
      have hd8 : (rest.drop 8).length = rest.length - 8 := by simp
      generalize hn : get4 rest = n at *
      by_cases h6 : n > 65536
      · rw [if_pos h6, br_t (decide_eq_true (by omega))]
      · rw [if_neg h6, br_f (decide_eq_false (by omega)), IntWalk.i64_in ((rest.length : Int) - 8) ⟨by omega, by omega⟩]
        by_cases h7 : n > (rest.drop 8).length
        · rw [if_pos h7, br_t (decide_eq_true (by omega))]
        · rw [if_neg h7, br_f (decide_eq_false (by omega)), IntWalk.i64_in ((8 : Int) + (n : Int)) ⟨by omega, by omega⟩]
          have e8 : ((8 : Int) + (n : Int)).toNat = 8 + n := by omega
          rw [e8, br_t (by simp [leB]; omega)]
          have hbd : List.drop 8 (List.take (8 + n) rest) = (rest.drop 8).take n := by
            rw [List.drop_take]; congr 1; omega
          rw [hbd, List.nil_append]
          have htl : ((rest.drop 8).take n).length ≤ (rest.drop 8).length := by simp; omega
          have h17 : F30 (k + 1) ((rest.drop 8).take n) = some (((sumN ((rest.drop 8).take n) : Int), ()), ()) := F30_eq (k + 1) ((rest.drop 8).take n) ((hbr.drop 8).take n) (by omega) (by omega)
          have h52 : F52 (k + 1) (rest.drop 4) = some (((get4 (rest.drop 4) : Int), ()), ()) := F52_eq k _ (hbr.drop 4) (by simp; omega)
          generalize (rest.drop 8).take n = body at *
          generalize hsum : sumN body = sm at *
          generalize hget : get4 (rest.drop 4) = gt at *
          rw [br_t (decide_eq_true (by omega)), h17, bd_s]
          dsimp only
          rw [br_t (by simp [leB]; omega), h52, bd_s]
          dsimp only
          by_cases h9 : sm ≠ gt
          · rw [if_pos h9, br_t (by simp only [bne_iff_ne, ne_eq]; omega)]
          · rw [if_neg h9, br_f (by simp only [bne_eq_false_iff_eq]; omega), IntWalk.i64_in (a + 8) ⟨by omega, by omega⟩, IntWalk.i64_in _ ⟨by omega, by omega⟩]

/-- the frames of bytes -/
def splitS (b : List Int) : Nat → Nat → List (List Int) → List (List Int) × Nat × Int
  | 0, a, out => (out, a, 0)
  | m + 1, a, out => if a < b.length then
      (if (nextS b a).2.2 ≠ 0 then (out, a, (nextS b a).2.2) else splitS b m (nextS b a).2.1.toNat (out ++ [(nextS b a).1]))
    else (out, a, 0)

theorem next_ok {b : List Int} {a : Nat} (h : (nextS b (a : Int)).2.2 = 0) : ∃ n : Nat, (nextS b (a : Int)).2.1 = ((a + 8 + n : Nat) : Int) ∧ a + 8 + n ≤ b.length ∧ (nextS b (a : Int)).1.length = n := by
  unfold nextS at h ⊢
  by_cases h0 : (a : Int) < 0 ∨ (a : Int) > b.length
  · rw [if_pos h0] at h; exact absurd (show (2 : Int) = 0 from h) (by decide)
  · rw [if_neg h0] at h ⊢
    dsimp only at h ⊢
    rw [Int.toNat_natCast] at h ⊢
    have hd : (b.drop a).length = b.length - a := by simp
    have hd8 : ((b.drop a).drop 8).length = b.length - a - 8 := by simp; omega
    generalize b.drop a = rest at *
    generalize hn : get4 rest = n at *
    generalize get4 (rest.drop 4) = g at *
    have hbl : (rest.drop 8).length < n ∨ ((rest.drop 8).take n).length = n := by rw [List.length_take]; omega
    generalize (rest.drop 8).take n = body at *
    generalize sumN body = s at *
    by_cases h1 : rest.length < 8
    · rw [if_pos h1] at h; exact absurd (show (1 : Int) = 0 from h) (by decide)
    rw [if_neg h1] at h ⊢
    by_cases h2 : n > 65536
    · rw [if_pos h2] at h; exact absurd (show (2 : Int) = 0 from h) (by decide)
    rw [if_neg h2] at h ⊢
    by_cases h3 : n > (rest.drop 8).length
    · rw [if_pos h3] at h; exact absurd (show (1 : Int) = 0 from h) (by decide)
    rw [if_neg h3] at h ⊢
    by_cases h4 : s ≠ g
    · rw [if_pos h4] at h; exact absurd (show (2 : Int) = 0 from h) (by decide)
    rw [if_neg h4]
    refine ⟨n, ?_, by omega, ?_⟩
    · show (a : Int) + 8 + (n : Int) = _
      omega
    · show body.length = n
      omega

theorem next_at (b : List Int) (a : Nat) (h : a ≤ b.length) (h0 : (nextS b (a : Int)).2.2 ≠ 0) : (nextS b (a : Int)).2.2 = 1 ∨ (nextS b (a : Int)).2.2 = 2 := by
  unfold nextS at h0 ⊢
  rw [if_neg (by omega)] at h0 ⊢
  dsimp only at h0 ⊢
  generalize get4 (b.drop (a : Int).toNat) = n at *
  generalize get4 ((b.drop (a : Int).toNat).drop 4) = g at *
  generalize ((b.drop (a : Int).toNat).drop 8).take n = body at *
  generalize sumN body = s at *
  repeat' split at h0
  all_goals first
    | exact absurd rfl h0
    | skip
  · rw [if_pos (by assumption)]; exact Or.inl rfl
  · rw [if_neg (by assumption), if_pos (by assumption)]; exact Or.inr rfl
  · rw [if_neg (by assumption), if_neg (by assumption), if_pos (by assumption)]; exact Or.inl rfl
  · rw [if_neg (by assumption), if_neg (by assumption), if_neg (by assumption), if_pos (by assumption)]; exact Or.inr rfl

theorem L28_run (k : Nat) (b : List Int) (hb : Byt b) (hl : b.length ≤ 1000000) (hk : b.length + 50 ≤ k) (x0 : List (List Int)) (x1 x2 : Int) (g : Nat → (List (List (Int))) × ((Int) × ((Int) × ((List (List (Int))) × ((Int) × (Unit))))) → Option (((List (List (Int))) × ((Int) × ((Int) × (Unit)))) × Unit)) : ∀ (m at_ : Nat) (out : List (List Int)), b.length - at_ < m → at_ ≤ b.length → out.length ≤ at_ →
    bdL (L28_0 k b m (x0, (x1, (x2, (out, ((at_ : Int), ()))))))
      (fun (b : (List (List (Int))) × ((Int) × ((Int) × ((List (List (Int))) × ((Int) × (Unit)))))) => (some ((b.2.2.2.1, (b.2.2.2.2.1, ((0 : Int), ()))), ())))
      g
      (fun (q : (List (List (Int))) × ((Int) × ((Int) × (Unit)))) => (fun (b : Unit) => (some (q, ()))))
    = some (((splitS b m at_ out).1, (((splitS b m at_ out).2.1 : Int), ((splitS b m at_ out).2.2, ()))), ())
  | 0, at_, out, h1, h2, h3 => by omega
  | m + 1, at_, out, h1, h2, h3 => by
    rw [L28_0_step]
    by_cases h : at_ < b.length
    · rw [br_t (decide_eq_true (by omega)), F16_eq k b at_ hb hl (by omega), bd_s]
      have hok := @next_ok b at_
      have hs : splitS b (m + 1) at_ out = (if (nextS b (at_ : Int)).2.2 ≠ 0 then (out, at_, (nextS b (at_ : Int)).2.2) else splitS b m (nextS b (at_ : Int)).2.1.toNat (out ++ [(nextS b (at_ : Int)).1])) := by
        show (if at_ < b.length then _ else _) = _
        rw [if_pos h]
      rw [hs]
      generalize nextS b (at_ : Int) = r at *
      obtain ⟨t, to, e⟩ := r
      dsimp only at hok ⊢
      by_cases he : e = 0
      · subst he
        obtain ⟨n, e1, e2, e3⟩ := hok rfl
        rw [if_neg (by simp), br_f (by rfl), br_t (decide_eq_true (by simp; omega))]
        rw [e1, Int.toNat_natCast]
        exact L28_run k b hb hl hk x0 x1 x2 g m (at_ + 8 + n) (out ++ [t]) (by omega) e2 (by simp; omega)
      · rw [if_pos he, br_t (by simp only [bne_iff_ne, ne_eq]; exact he), bdL_r]
    · rw [br_f (decide_eq_false (by omega)), bdL_b]
      have hs : splitS b (m + 1) at_ out = (out, at_, 0) := by
        show (if at_ < b.length then _ else _) = _
        rw [if_neg h]
      rw [hs]

theorem L29_run (k : Nat) (b : List Int) (hb : Byt b) (hl : b.length ≤ 1000000) (hk : b.length + 50 ≤ k) (x0 : List (List Int)) (x1 x2 : Int) (g : Nat → (List (List (Int))) × ((Int) × ((Int) × ((List (List (Int))) × ((Int) × (Unit))))) → Option (((List (List (Int))) × ((Int) × ((Int) × (Unit)))) × Unit)) : ∀ (m at_ : Nat) (out : List (List Int)), b.length - at_ < m → at_ ≤ b.length → out.length ≤ at_ →
    bdL (L29_0 k b m (x0, (x1, (x2, (out, ((at_ : Int), ()))))))
      (fun (b : (List (List (Int))) × ((Int) × ((Int) × ((List (List (Int))) × ((Int) × (Unit)))))) => (some ((b.2.2.2.1, (b.2.2.2.2.1, ((0 : Int), ()))), ())))
      g
      (fun (q : (List (List (Int))) × ((Int) × ((Int) × (Unit)))) => (fun (b : Unit) => (some (q, ()))))
    = some (((splitS b m at_ out).1, (((splitS b m at_ out).2.1 : Int), ((splitS b m at_ out).2.2, ()))), ())
  | 0, at_, out, h1, h2, h3 => by omega
  | m + 1, at_, out, h1, h2, h3 => by
    rw [L29_0_step]
    by_cases h : at_ < b.length
    · rw [br_t (decide_eq_true (by omega)), F27_eq k b at_ hb hl (by omega), bd_s]
      have hok := @next_ok b at_
      have hs : splitS b (m + 1) at_ out = (if (nextS b (at_ : Int)).2.2 ≠ 0 then (out, at_, (nextS b (at_ : Int)).2.2) else splitS b m (nextS b (at_ : Int)).2.1.toNat (out ++ [(nextS b (at_ : Int)).1])) := by
        show (if at_ < b.length then _ else _) = _
        rw [if_pos h]
      rw [hs]
      generalize nextS b (at_ : Int) = r at *
      obtain ⟨t, to, e⟩ := r
      dsimp only at hok ⊢
      by_cases he : e = 0
      · subst he
        obtain ⟨n, e1, e2, e3⟩ := hok rfl
        rw [if_neg (by simp), br_f (by rfl), br_t (decide_eq_true (by simp; omega))]
        rw [e1, Int.toNat_natCast]
        exact L29_run k b hb hl hk x0 x1 x2 g m (at_ + 8 + n) (out ++ [t]) (by omega) e2 (by simp; omega)
      · rw [if_pos he, br_t (by simp only [bne_iff_ne, ne_eq]; exact he), bdL_r]
    · rw [br_f (decide_eq_false (by omega)), bdL_b]
      have hs : splitS b (m + 1) at_ out = (out, at_, 0) := by
        show (if at_ < b.length then _ else _) = _
        rw [if_neg h]
      rw [hs]

abbrev splitR (k : Nat) (b : List Int) : ((List (List Int)) × (Int × (Int × Unit))) × Unit :=
  (((splitS b k 0 []).1, (((splitS b k 0 []).2.1 : Int), ((splitS b k 0 []).2.2, ()))), ())

theorem F28_eq (k : Nat) (b : List Int) (hb : Byt b) (hl : b.length ≤ 1000000) (hk : b.length + 50 ≤ k) : F28 (k + 1) b = some (splitR k b) := by
  rw [F28_step]
  exact L28_run k b hb hl hk [] 0 0 _ k 0 [] (by omega) (by omega) (by simp)

theorem F29_eq (k : Nat) (b : List Int) (hb : Byt b) (hl : b.length ≤ 1000000) (hk : b.length + 50 ≤ k) : F29 (k + 1) b = some (splitR k b) := by
  rw [F29_step]
  exact L29_run k b hb hl hk [] 0 0 _ k 0 [] (by omega) (by omega) (by simp)

/-- what split gives are few and short texts -/
theorem split_len (b : List Int) : ∀ (m at_ : Nat) (out : List (List Int)), at_ ≤ b.length → out.length ≤ at_ → (∀ x ∈ out, x.length ≤ b.length) →
    (splitS b m at_ out).1.length ≤ b.length ∧ (splitS b m at_ out).2.1 ≤ b.length ∧ (∀ x ∈ (splitS b m at_ out).1, x.length ≤ b.length)
  | 0, at_, out, h2, h3, h4 => ⟨by show out.length ≤ _; omega, h2, h4⟩
  | m + 1, at_, out, h2, h3, h4 => by
    show (if at_ < b.length then _ else _ : List (List Int) × Nat × Int).1.length ≤ _ ∧ (if at_ < b.length then _ else _ : List (List Int) × Nat × Int).2.1 ≤ _ ∧ ∀ x ∈ (if at_ < b.length then _ else _ : List (List Int) × Nat × Int).1, _
    by_cases h : at_ < b.length
    · simp only [if_pos h]
      have hok := @next_ok b at_
      generalize nextS b (at_ : Int) = r at *
      obtain ⟨t, to, e⟩ := r
      dsimp only at hok ⊢
      by_cases he : e = 0
      · simp only [if_neg (show ¬ (e ≠ 0) from fun h => h he)]
        obtain ⟨n, e1, e2, e3⟩ := hok he
        rw [e1, Int.toNat_natCast]
        refine split_len b m (at_ + 8 + n) (out ++ [t]) e2 (by simp; omega) ?_
        intro x hx
        rcases List.mem_append.1 hx with hx | hx
        · exact h4 x hx
        · rw [List.mem_singleton.1 hx]; omega
      · simp only [if_pos (show e ≠ 0 from he)]
        exact ⟨by omega, by omega, h4⟩
    · simp only [if_neg h]
      exact ⟨by omega, by omega, h4⟩

theorem getD_dropL (l : List (List Int)) (i : Nat) (h : i < l.length) : l.drop i = l.getD i [] :: l.drop (i + 1) := by
  rw [List.drop_eq_getElem_cons h]; simp [List.getD, h]

theorem L31_run (k : Nat) (a b : List (List Int)) (hl : a.length = b.length) (hb : (a.length : Int) ≤ 9223372036854775806) (ha : ∀ x ∈ a, x.length + 1 < k ∧ (x.length : Int) ≤ 9223372036854775806)
    (g : Nat → (Bool) × ((Int) × (Unit)) → Option ((Bool × Unit) × Unit)) : ∀ (m i : Nat) (x0 : Bool), i ≤ a.length → a.length - i < m →
    bdL (L31_0 k a b m (x0, ((i : Int), ()))) (fun (b : (Bool) × ((Int) × (Unit))) => (some ((true, ()), ()))) g (fun (q : (Bool) × (Unit)) => (fun (b : Unit) => (some (q, ()))))
      = some ((decide (a.drop i = b.drop i), ()), ())
  | 0, i, x0, h1, h2 => by omega
  | m + 1, i, x0, h1, h2 => by
    rw [L31_0_step]
    by_cases h : i < a.length
    · rw [br_t (by simpa using h), br_t (inB_t ⟨by omega, by simpa using h⟩), br_t (inB_t ⟨by omega, by omega⟩)]
      have hb' : i < b.length := by omega
      rw [getD_dropL a i h, getD_dropL b i hb', Int.toNat_natCast]
      have hm := ha (a.getD i []) (by simp [List.getD, h])
      obtain ⟨k', rfl⟩ : ∃ k', k = k' + 1 := ⟨k - 1, by omega⟩
      rw [F20_eq k' _ _ (by omega) hm.2, bd_s]
      dsimp only
      by_cases he : a.getD i [] = b.getD i []
      · rw [br_f (by rw [decide_eq_true he]; rfl), IntWalk.i64_in _ ⟨by omega, by omega⟩]
        have := L31_run (k' + 1) a b hl hb ha g m (i + 1) x0 (by omega) (by omega)
        rw [show ((i : Int) + 1) = ((i + 1 : Nat) : Int) by omega, this, he]
        simp only [List.cons.injEq, true_and]
      · rw [br_t (by rw [decide_eq_false he]; rfl), bdL_r, decide_eq_false (by simp only [List.cons.injEq, not_and]; exact fun h => (he h).elim)]
    · have : i = a.length := by omega
      subst this
      rw [br_f (by simp), bdL_b, decide_eq_true (by rw [List.drop_length, hl, List.drop_length])]

theorem F31_eq (k : Nat) (a b : List (List Int)) (hk : a.length < k) (hb : (a.length : Int) ≤ 9223372036854775806) (ha : ∀ x ∈ a, x.length + 1 < k ∧ (x.length : Int) ≤ 9223372036854775806) : F31 (k + 1) a b = some ((decide (a = b), ()), ()) := by
  rw [F31_step]
  by_cases hl : a.length = b.length
  · rw [br_f (by simp [hl])]
    have := L31_run k a b hl hb ha (fun j b => none) k 0 false (by omega) (by omega)
    simp only [List.drop_zero] at this
    exact this
  · rw [br_t (by simp only [bne_iff_ne, ne_eq]; omega)]
    have : a ≠ b := fun h => hl (by rw [h])
    rw [decide_eq_false this]

theorem next_len (b : List Int) (n : Int) : (nextS b n).1.length ≤ b.length := by
  unfold nextS
  split
  · simp
  · dsimp only
    have hr : ((b.drop n.toNat).drop 8).length ≤ b.length := by simp only [List.length_drop]; omega
    generalize get4 (b.drop n.toNat) = m at *
    generalize get4 ((b.drop n.toNat).drop 4) = g at *
    have hb : (((b.drop n.toNat).drop 8).take m).length ≤ b.length := by rw [List.length_take]; omega
    generalize ((b.drop n.toNat).drop 8).take m = body at *
    generalize sumN body = s at *
    repeat' split
    all_goals first
      | exact hb
      | exact Nat.zero_le _

theorem F7_eq (b : List Int) (n : Int) (hb : Byt b) : F7 20000 b n = some ((true, ()), ()) := by
  rw [F7_step 19999, F14_eq 19899, bd_s]
  dsimp only
  rw [br_f (by rfl)]
  by_cases h1 : b.length > 5000 ∧ b.length ≤ 65536
  · rw [br_t (by rw [decide_eq_true (by omega), decide_eq_true (by omega)]; rfl)]
  · by_cases h2 : b.length > 65536
    · rw [br_f (by rw [decide_eq_true (by omega), decide_eq_false (by omega)]; rfl), br_t (decide_eq_true (by omega)), F15_step 19998, br_t (decide_eq_true (by omega)), bd_s]
      rfl
    · rw [br_f (by rw [decide_eq_false (by omega)]; rfl), br_f (decide_eq_false (by omega))]
      have e25 := F25_eq 19998 b (by omega)
      have e15 := F15_eq 19999 b hb (by omega) (by omega)
      have e26 := F26_eq 19999 b hb (by omega) (by omega)
      have e16 := F16_eq 19999 b n hb (by omega) (by omega)
      have e27 := F27_eq 19999 b n hb (by omega) (by omega)
      have e28 := F28_eq 19998 b hb (by omega) (by omega)
      have e29 := F29_eq 19998 b hb (by omega) (by omega)
      have e17 := F17_eq' 19999 b hb (by omega) (by omega)
      have e30 := F30_eq 19999 b hb (by omega) (by omega)
      have hfl := frame_len b
      have hsl := split_len b 19998 0 [] (by omega) (by simp) (by simp)
      have hnl : (nextS b n).1.length ≤ b.length := next_len b n
      unfold splitR at e28 e29
      generalize frame b = fr at *
      generalize nextS b n = ne at *
      generalize splitS b 19998 0 [] = sp at *
      generalize sumN b = su at *
      rw [e25, bd_s]
      dsimp only
      rw [e15, bd_s, e26, bd_s, e16, bd_s, e27, bd_s, e28, bd_s, e29, bd_s, e17, bd_s, e30, bd_s]
      dsimp only
      rw [br_t (by simp), F20_eq 19998 fr fr (by omega) (by omega), bd_s, br_t (by simp), F20_eq 19998 ne.1 ne.1 (by omega) (by omega), bd_s, br_t (by simp),
        F31_eq 19998 sp.1 sp.1 (by omega) (by omega) (fun x hx => ⟨by have := hsl.2.2 x hx; omega, by have := hsl.2.2 x hx; omega⟩), bd_s, br_t (by simp), F20_eq 19998 b b (by omega) (by omega), bd_s]
      simp

end Go.Proofs.Ytnffdeokhcojfaa.E
