/- The forms of the functions, and plain laws on what they come to. No condition. -/
import Derived.Test.YtnffdeokhcojfaaN

namespace Go.Proofs.Ytnffdeokhcojfaa.E
open Go
set_option linter.unusedSimpArgs false
set_option linter.unusedVariables false

/-- the last K bytes of a number -/
def D (K n : Nat) : List Int := (List.range K).map fun j => ((dg n K j : Nat) : Int)

theorem D_succ (K n : Nat) : D (K + 1) n = ((n / 256 ^ K % 256 : Nat) : Int) :: D K n := by
  unfold D
  rw [List.range_succ_eq_map, List.map_cons, List.map_map]
  congr 1
  · unfold dg; rw [show K + 1 - 1 - 0 = K by omega, show (2 : Nat) ^ (8 * K) = 256 ^ K by rw [Nat.pow_mul]]
  · apply List.map_congr_left
    intro j hj
    have : j < K := List.mem_range.1 hj
    simp only [Function.comp, dg]
    rw [show K + 1 - 1 - (j + 1) = K - 1 - j by omega]

theorem putL_D (n : Nat) : putL n = ((n / 256 ^ (sz n - 1) % 256 + mask (sz n) : Nat) : Int) :: D (sz n - 1) n := by
  rw [putL_cons]
  have hp := sz_pos n
  obtain ⟨K, hK⟩ : ∃ K, sz n = K + 1 := ⟨sz n - 1, by omega⟩
  rw [hK, Nat.add_sub_cancel]
  congr 1
  · unfold dg; rw [show K + 1 - 1 - 0 = K by omega, show (2 : Nat) ^ (8 * K) = 256 ^ K by rw [Nat.pow_mul]]
  · unfold D
    apply List.map_congr_left
    intro j hj
    have : j < K := List.mem_range.1 hj
    unfold dg
    rw [show K + 1 - 1 - (j + 1) = K - 1 - j by omega]

/-- which is below the other, at the first place where they differ -/
def cmpL : List Int → List Int → Option Bool
  | x :: xs, y :: ys => if x = y then cmpL xs ys else some (decide (x < y))
  | _, _ => none

theorem cmpL_swap : ∀ {xs ys : List Int}, cmpL xs ys = some true → cmpL ys xs = some false
  | [], ys, h => by cases ys <;> simp [cmpL] at h
  | x :: xs, [], h => by simp [cmpL] at h
  | x :: xs, y :: ys, h => by
    simp only [cmpL] at h ⊢
    by_cases he : x = y
    · subst he; rw [if_pos rfl] at h ⊢; exact cmpL_swap h
    · rw [if_neg he] at h
      rw [if_neg (fun h => he h.symm)]
      simp only [Option.some.injEq, decide_eq_true_eq, decide_eq_false_iff_not] at h ⊢
      omega

theorem D_lt : ∀ (K a b : Nat), a % 256 ^ K < b % 256 ^ K → cmpL (D K a) (D K b) = some true
  | 0, a, b, h => by simp [Nat.mod_one] at h
  | K + 1, a, b, h => by
    rw [D_succ, D_succ]
    have e : ∀ x : Nat, x % 256 ^ (K + 1) = 256 ^ K * (x / 256 ^ K % 256) + x % 256 ^ K := fun x => by
      rw [Nat.pow_succ, Nat.mod_mul]; omega
    rw [e, e] at h
    have ha := Nat.mod_lt a (Nat.pow_pos (n := K) (show 0 < 256 by omega))
    have hb := Nat.mod_lt b (Nat.pow_pos (n := K) (show 0 < 256 by omega))
    simp only [cmpL]
    by_cases hh : a / 256 ^ K % 256 = b / 256 ^ K % 256
    · rw [if_pos (by rw [hh])]
      exact D_lt K a b (by rw [hh] at h; omega)
    · rw [if_neg (by omega)]
      have : a / 256 ^ K % 256 < b / 256 ^ K % 256 := by
        rcases Nat.lt_or_ge (a / 256 ^ K % 256) (b / 256 ^ K % 256) with h1 | h1
        · exact h1
        · exfalso
          have h2 : b / 256 ^ K % 256 + 1 ≤ a / 256 ^ K % 256 := by omega
          have h3 := Nat.mul_le_mul_left (256 ^ K) h2
          rw [Nat.mul_add, Nat.mul_one] at h3
          omega
      rw [decide_eq_true (by omega)]

theorem top_small {n : Nat} (hn : n ≤ most) : n / 256 ^ (sz n - 1) % 256 < 2 ^ (8 - sz n) ∧ n / 256 ^ (sz n - 1) % 256 = n / 256 ^ (sz n - 1) := by
  have hp := sz_pos n
  have h7 := sz_most hn
  have := top_lt hp h7 ((sz_le hp).1 (Nat.le_refl _))
  rw [show (2 : Nat) ^ (8 * (sz n - 1)) = 256 ^ (sz n - 1) by rw [Nat.pow_mul]] at this
  have h2 : 2 ^ (8 - sz n) ≤ 2 ^ 7 := Nat.pow_le_pow_right (by omega) (by omega)
  have e : n / 256 ^ (sz n - 1) % 256 = n / 256 ^ (sz n - 1) := Nat.mod_eq_of_lt (by omega)
  exact ⟨by rw [e]; exact this, e⟩

theorem put_lt {a b : Nat} (hb : b ≤ most) (h : a < b) : cmpL (putL a) (putL b) = some true := by
  have ha : a ≤ most := by omega
  have hpa := sz_pos a
  have hpb := sz_pos b
  have h7a := sz_most ha
  have h7b := sz_most hb
  have hle : sz a ≤ sz b := (sz_le hpb).2 (Nat.lt_trans h ((sz_le hpb).1 (Nat.le_refl _)))
  obtain ⟨ta, ea⟩ := top_small ha
  obtain ⟨tb, eb⟩ := top_small hb
  rw [putL_D, putL_D]
  simp only [cmpL]
  rcases Nat.lt_or_eq_of_le hle with hlt | heq
  · have hm : 2 ^ (9 - sz b) ≤ 2 ^ (8 - sz a) := Nat.pow_le_pow_right (by omega) (by omega)
    have e9 : 2 ^ (9 - sz a) = 2 * 2 ^ (8 - sz a) := by rw [show 9 - sz a = (8 - sz a) + 1 by omega, Nat.pow_succ]; omega
    have e8 : 2 ^ (8 - sz a) ≤ 2 ^ 7 := Nat.pow_le_pow_right (by omega) (by omega)
    have : a / 256 ^ (sz a - 1) % 256 + mask (sz a) < b / 256 ^ (sz b - 1) % 256 + mask (sz b) := by unfold mask; omega
    rw [if_neg (by omega), decide_eq_true (by omega)]
  · rw [heq] at ea ta ⊢
    obtain ⟨K, hK⟩ : ∃ K, sz b - 1 = K := ⟨sz b - 1, rfl⟩
    rw [hK] at ea eb ta tb ⊢
    have hdiv : a / 256 ^ K ≤ b / 256 ^ K := Nat.div_le_div_right (Nat.le_of_lt h)
    by_cases hh : a / 256 ^ K % 256 = b / 256 ^ K % 256
    · rw [if_pos (by rw [hh])]
      apply D_lt
      have e1 := Nat.div_add_mod a (256 ^ K)
      have e2 := Nat.div_add_mod b (256 ^ K)
      have : a / 256 ^ K = b / 256 ^ K := by omega
      rw [this] at e1
      omega
    · rw [if_neg (by omega), decide_eq_true (by omega)]

theorem L5_0_eq (k : Nat) (a b : Int) (x y : List Int) (hx : x.length ≤ 9) : ∀ (m i : Nat) (x0 t : Bool), i ≤ x.length → x.length - i < m → cmpL (x.drop i) (y.drop i) = some t →
    L5_0 k a b x y m (x0, ((i : Int), ())) = some (.ret ((t == decide (a < b)), ()) ())
  | 0, i, x0, t, h1, h2, h => by omega
  | m + 1, i, x0, t, h1, h2, h => by
    rw [L5_0_step]
    by_cases hi : i < x.length
    · by_cases hj : i < y.length
      · rw [getD_drop x i hi, getD_drop y i hj] at h
        simp only [cmpL] at h
        rw [br_t (by simp; omega), br_t (inB_t ⟨by omega, by omega⟩), br_t (inB_t ⟨by omega, by omega⟩), Int.toNat_natCast]
        by_cases he : x.getD i 0 = y.getD i 0
        · rw [if_pos he] at h
          rw [br_f (by rw [he]; simp), IntWalk.i64_in _ ⟨by omega, by omega⟩, show ((i : Int) + 1) = ((i + 1 : Nat) : Int) by omega]
          exact L5_0_eq k a b x y hx m (i + 1) x0 t (by omega) (by omega) h
        · rw [if_neg he] at h
          simp only [Option.some.injEq] at h
          rw [br_t (by simp only [bne_iff_ne, ne_eq]; exact he), br_t (inB_t ⟨by omega, by omega⟩), br_t (inB_t ⟨by omega, by omega⟩), h]
      · rw [List.drop_eq_nil_of_le (by omega : y.length ≤ i)] at h
        cases hq : x.drop i <;> simp [hq, cmpL] at h
    · rw [List.drop_eq_nil_of_le (by omega : x.length ≤ i)] at h
      simp [cmpL] at h

theorem F5_eq (k : Nat) (a b : Int) : F5 (k + 50) a b = some ((true, ()), ()) := by
  rw [F5_step, show k + 49 = (k + 19) + 30 from rfl, F18_eq]
  simp only [bd_s, br_false, Bool.not_true]
  have no : ∀ n : Int, ¬ (0 ≤ n ∧ n ≤ 562949953421311) → F19 (k + 19 + 30) n = some (([], (false, ())), ()) := fun n h => F19_no (k + 48) n (by omega)
  have yes : ∀ n : Nat, n ≤ most → F19 (k + 19 + 30) (n : Int) = some ((putL n, (true, ())), ()) := fun n h => F19_eq (k + 37) n h
  by_cases ha : 0 ≤ a ∧ a ≤ 562949953421311
  · obtain ⟨a, rfl⟩ : ∃ m : Nat, a = (m : Int) := ⟨a.toNat, by omega⟩
    have hma : a ≤ most := by unfold most; omega
    rw [yes a hma]
    by_cases hb : 0 ≤ b ∧ b ≤ 562949953421311
    · obtain ⟨b, rfl⟩ : ∃ m : Nat, b = (m : Int) := ⟨b.toNat, by omega⟩
      have hmb : b ≤ most := by unfold most; omega
      rw [yes b hmb]
      simp only [bd_s, Bool.not_true, cond_false, br_false]
      have hla : (putL a).length ≤ 9 := by rw [putL_len]; have := sz_most hma; omega
      by_cases hab : a = b
      · subst hab
        rw [br_t (by simp), show k + 19 + 30 = (k + 48) + 1 from rfl, F20_eq _ _ _ (by omega) (by omega)]
        simp
      · rw [br_f (by simp only [beq_eq_false_iff_ne, ne_eq]; omega)]
        have hc : cmpL (putL a) (putL b) = some (decide ((a : Int) < (b : Int))) := by
          rcases Nat.lt_or_gt_of_ne hab with h | h
          · rw [put_lt hmb h, decide_eq_true (by omega)]
          · rw [cmpL_swap (put_lt hma h), decide_eq_false (by omega)]
        have hL : L5_0 (k + 19 + 30) (a : Int) (b : Int) (putL a) (putL b) (k + 19 + 30) (false, ((0 : Int), ())) = some (.ret ((decide ((a : Int) < (b : Int)) == decide ((a : Int) < (b : Int))), ()) ()) :=
          L5_0_eq (k + 19 + 30) a b (putL a) (putL b) hla (k + 19 + 30) 0 false _ (by omega) (by omega) (by simpa using hc)
        rw [hL, bdL_r]
        simp
    · rw [no b hb]; simp
  · rw [no a ha]
    by_cases hb : 0 ≤ b ∧ b ≤ 562949953421311
    · obtain ⟨b, rfl⟩ : ∃ m : Nat, b = (m : Int) := ⟨b.toNat, by omega⟩
      have hmb : b ≤ most := by unfold most; omega
      rw [yes b hmb]; simp
    · rw [no b hb]; simp

end Go.Proofs.Ytnffdeokhcojfaa.E

namespace Go.Proofs.Ytnffdeokhcojfaa.E
open Go
set_option linter.unusedSimpArgs false
set_option linter.unusedVariables false

theorem ld_split (b : Nat) (h : b < 256) (hK : ldK b ≤ 7) : b = b % 2 ^ (8 - ldK b) + mask (ldK b) := by
  have key : ((List.range 256).all fun b => Nat.blt 7 (ldK b) || Nat.beq b (b % 2 ^ (8 - ldK b) + mask (ldK b))) = true := by kernel_rfl
  have := List.all_eq_true.1 key b (List.mem_range.2 h)
  simp only [Bool.or_eq_true] at this
  rcases this with this | this
  · rw [Nat.blt_eq] at this; omega
  · exact Nat.eq_of_beq_eq_true this

theorem ld_put (K t : Nat) (h1 : 1 ≤ K) (h7 : K ≤ 7) (ht : t < 2 ^ (8 - K)) : ldK (t + mask K) = K ∧ (t + mask K) % 2 ^ (8 - K) = t := by
  have key : ((List.range 8).all fun K => (List.range 128).all fun t => !(Nat.ble 1 K && Nat.blt t (2 ^ (8 - K))) || (Nat.beq (ldK (t + mask K)) K && Nat.beq ((t + mask K) % 2 ^ (8 - K)) t)) = true := by kernel_rfl
  have hlt : t < 128 := Nat.lt_of_lt_of_le ht (by
    have : 2 ^ (8 - K) ≤ 2 ^ 7 := Nat.pow_le_pow_right (by omega) (by omega)
    simpa using this)
  have := List.all_eq_true.1 (List.all_eq_true.1 key K (List.mem_range.2 (by omega))) t (List.mem_range.2 hlt)
  simp only [Bool.or_eq_true, Bool.not_eq_true', Bool.and_eq_true] at this
  rcases this with this | this
  · have e1 : Nat.ble 1 K = true := Nat.ble_eq_true_of_le h1
    have e2 : Nat.blt t (2 ^ (8 - K)) = true := by simpa [Nat.blt_eq] using ht
    simp [e1, e2] at this
  · exact ⟨Nat.eq_of_beq_eq_true this.1, Nat.eq_of_beq_eq_true this.2⟩

theorem D_len (K n : Nat) : (D K n).length = K := by simp [D]
theorem D_byt (K n : Nat) : Byt (D K n) := by
  intro x hx
  obtain ⟨j, _, rfl⟩ := List.mem_map.1 hx
  have : dg n K j < 256 := Nat.mod_lt _ (by omega)
  omega

/-- what is put together comes apart -/
theorem val_D : ∀ (l : List Int) (h : Nat), Byt l → ∃ N : Nat, val (h : Int) l = (N : Int) ∧ N / 256 ^ l.length = h ∧ D l.length N = l
  | [], h, _ => ⟨h, rfl, by simp, rfl⟩
  | x :: l, h, hb => by
    have hx := hb x (by simp)
    obtain ⟨x, rfl⟩ : ∃ n : Nat, x = (n : Int) := ⟨x.toNat, by omega⟩
    obtain ⟨N, h1, h2, h3⟩ := val_D l (h * 256 + x) (fun y hy => hb y (by simp [hy]))
    refine ⟨N, ?_, ?_, ?_⟩
    · rw [← h1]; simp [val]
    · rw [List.length_cons, Nat.pow_succ, ← Nat.div_div_eq_div_mul, h2]; omega
    · rw [List.length_cons, D_succ, h2, h3]
      congr 1
      omega

/-- what comes apart is put together again -/
theorem D_val : ∀ (K n : Nat), val ((n / 256 ^ K : Nat) : Int) (D K n) = (n : Int)
  | 0, n => by simp [D, val]
  | K + 1, n => by
    rw [D_succ]
    show val (((n / 256 ^ (K + 1) : Nat) : Int) * 256 + ((n / 256 ^ K % 256 : Nat) : Int)) (D K n) = n
    have : ((n / 256 ^ (K + 1) : Nat) : Int) * 256 + ((n / 256 ^ K % 256 : Nat) : Int) = ((n / 256 ^ K : Nat) : Int) := by
      rw [Nat.pow_succ, ← Nat.div_div_eq_div_mul]; omega
    rw [this]
    exact D_val K n

/-- what was put is taken again -/
theorem num_put (n : Nat) (hn : n ≤ most) (rest : List Int) (lim : Int) (hl : (n : Int) ≤ lim) : numC (putL n ++ rest, (false, ())) lim = ((n : Int), (rest, (false, ()))) := by
  have hp := sz_pos n
  have h7 := sz_most hn
  obtain ⟨tn, en⟩ := top_small hn
  obtain ⟨e1, e2⟩ := ld_put (sz n) _ hp h7 tn
  rw [putL_D]
  simp only [List.cons_append, numC, Int.toNat_natCast]
  rw [e1, if_neg (by simp [D_len]; omega)]
  have ht : (D (sz n - 1) n ++ rest).take (sz n - 1) = D (sz n - 1) n := by rw [List.take_left' (D_len _ _)]
  have hd : (D (sz n - 1) n ++ rest).drop (sz n - 1) = rest := by rw [List.drop_left' (D_len _ _)]
  have hm : (((n / 256 ^ (sz n - 1) % 256 + mask (sz n) : Nat) : Int) % 2 ^ (8 - sz n)) = ((n / 256 ^ (sz n - 1) : Nat) : Int) := by
    rw [← en]
    have : (((n / 256 ^ (sz n - 1) % 256 + mask (sz n)) % 2 ^ (8 - sz n) : Nat) : Int) = ((n / 256 ^ (sz n - 1) % 256 : Nat) : Int) := by rw [e2]
    rw [← this]; simp
  rw [ht, hd, hm, D_val, Int.toNat_natCast, if_neg (by omega)]

/-- bytes that are a number are those that are put -/
theorem put_num {b : List Int} {lim : Int} (hb : Byt b) (hl : lim ≤ 562949953421311) (h : (numC (b, (false, ())) lim).2.2.1 = false) :
    ∃ n : Nat, n ≤ most ∧ (numC (b, (false, ())) lim).1 = (n : Int) ∧ b = putL n ++ (numC (b, (false, ())) lim).2.1 := by
  cases b with
  | nil => simp [numC, lost] at h
  | cons x l =>
    have hx := hb x (by simp)
    obtain ⟨x, rfl⟩ : ∃ n : Nat, x = (n : Int) := ⟨x.toNat, by omega⟩
    have hx6 : x < 256 := by omega
    have hbl : Byt l := fun y hy => hb y (by simp [hy])
    obtain ⟨hK1, _⟩ := ldK_range x hx6
    simp only [numC, Int.toNat_natCast] at h ⊢
    by_cases hc : (false = true ∨ ldK x > 7 ∨ ldK x > l.length + 1)
    · rw [if_pos hc] at h; simp [lost] at h
    · rw [if_neg hc] at h ⊢
      simp only [not_or] at hc
      have hlen : (l.take (ldK x - 1)).length = ldK x - 1 := by simp; omega
      obtain ⟨N, h1, h2, h3⟩ := val_D (l.take (ldK x - 1)) (x % 2 ^ (8 - ldK x)) (fun y hy => hbl y (List.mem_of_mem_take hy))
      have e2 : ((x : Int) % 2 ^ (8 - ldK x)) = ((x % 2 ^ (8 - ldK x) : Nat) : Int) := by simp
      rw [e2, h1, Int.toNat_natCast] at h ⊢
      by_cases hq : (sz N ≠ ldK x ∨ (N : Int) > lim)
      · rw [if_pos hq] at h; simp [lost] at h
      · rw [if_neg hq]
        have hs : sz N = ldK x := by omega
        have hN : N ≤ most := by unfold most; omega
        refine ⟨N, hN, rfl, ?_⟩
        rw [hlen] at h2 h3
        rw [putL_D, hs, h2, h3]
        have hm := ld_split x hx6 (by omega)
        have hlt : x % 2 ^ (8 - ldK x) % 256 = x % 2 ^ (8 - ldK x) := Nat.mod_eq_of_lt (Nat.lt_of_le_of_lt (Nat.mod_le _ _) hx6)
        rw [hlt, ← hm, List.cons_append, List.take_append_drop]

theorem num_lost {c : Cur} {lim : Int} (h : (numC c lim).2.2.1 = true) : numC c lim = (0, lost) := by
  unfold numC at h ⊢
  split
  · rfl
  · rename_i b l hc
    simp only [hc] at h
    split
    · rfl
    · rename_i h1
      rw [if_neg h1] at h
      dsimp only at h ⊢
      split
      · rfl
      · rename_i h2
        rw [if_neg h2] at h
        simp at h

theorem F6_eq (k : Nat) (b : List Int) (hb : Byt b) : F6 (k + 150) b = some ((true, ()), ()) := by
  rw [F6_step, show k + 149 = (k + 119) + 30 from rfl, F18_eq]
  simp only [bd_s, br_false, Bool.not_true]
  by_cases hlen : b.length ≤ 50
  · rw [br_f (decide_eq_false (by omega)), show k + 119 + 30 = (k + 147) + 2 from rfl, F21_eq _ _ (by omega)]
    simp only [bd_s]
    rw [show k + 147 + 2 = (k + 137) + 12 from rfl, F22_eq _ _ _ hb (by simp; omega)]
    simp only [bd_s]
    rw [show k + 137 + 12 = (k + 148) + 1 from rfl, F23_eq]
    simp only [bd_s]
    cases hf : (numC (b, (false, ())) 562949953421311).2.2.1 with
    | true =>
      rw [br_true, num_lost hf]; simp
    | false =>
      obtain ⟨n, h1, h2, h3⟩ := put_num hb (Int.le_refl _) hf
      rw [br_false, h2, show k + 148 + 1 = (k + 137) + 12 from rfl, F19_eq _ _ h1]
      simp only [bd_s, br_true]
      rw [show k + 137 + 12 = (k + 148) + 1 from rfl, F24_eq]
      simp only [bd_s, cond_true]
      have h4 : b.length = (putL n).length + (numC (b, (false, ())) 562949953421311).2.1.length := by
        conv => lhs; rw [h3]
        rw [List.length_append]
      rw [IntWalk.i64_in _ ⟨by omega, by omega⟩, br_t (by simp only [beq_iff_eq]; omega), br_t (by simp [leB]; omega), Int.toNat_natCast]
      have h5 : b.take (putL n).length = putL n := by
        conv => lhs; rw [h3]
        rw [List.take_left]
      rw [h5, F20_eq _ _ _ (by omega) (by omega)]
      simp
  · rw [br_t (decide_eq_true (by omega))]

end Go.Proofs.Ytnffdeokhcojfaa.E

namespace Go.Proofs.Ytnffdeokhcojfaa.E
open Go
set_option linter.unusedSimpArgs false
set_option linter.unusedVariables false

theorem nums_byt (s : List UInt8) : Byt (nums s) := by
  intro x hx
  obtain ⟨c, _, rfl⟩ := List.mem_map.1 hx
  have := c.toNat_lt
  omega

theorem putL_byt (n : Nat) (hn : n ≤ most) : Byt (putL n) := by
  rw [putL_D]
  intro x hx
  rcases List.mem_cons.1 hx with rfl | hx
  · obtain ⟨h1, h2⟩ := top_small hn
    have hp := sz_pos n
    have h7 := sz_most hn
    have e9 : 2 ^ (9 - sz n) = 2 * 2 ^ (8 - sz n) := by rw [show 9 - sz n = (8 - sz n) + 1 by omega, Nat.pow_succ]; omega
    have e8 : 2 ^ (8 - sz n) ≤ 2 ^ 7 := Nat.pow_le_pow_right (by omega) (by omega)
    unfold mask
    omega
  · exact D_byt _ _ x hx

theorem Byt.append {a b : List Int} (ha : Byt a) (hb : Byt b) : Byt (a ++ b) := fun x hx => by
  rcases List.mem_append.1 hx with h | h
  · exact ha x h
  · exact hb x h

theorem Byt.take {a : List Int} (ha : Byt a) (n : Nat) : Byt (a.take n) := fun x hx => ha x (List.mem_of_mem_take hx)

theorem txt_nums (s : List UInt8) : txt (nums s) = s := by
  unfold txt nums
  rw [List.map_map]
  conv => rhs; rw [← List.map_id s]
  apply List.map_congr_left
  intro c _
  simp

theorem text_back (s : List UInt8) (h : s.length ≤ most) : textC (putL s.length ++ nums s, (false, ())) (s.length : Int) = (s, ([], (false, ()))) := by
  unfold textC
  rw [num_put _ h _ _ (Int.le_refl _)]
  have hn : (nums s).length = s.length := by simp [nums]
  unfold takeC
  simp only
  rw [if_neg (by rw [hn]; simp), Int.toNat_natCast, List.take_of_length_le (by rw [hn]; exact Nat.le_refl _), txt_nums, List.drop_eq_nil_of_le (by rw [hn]; exact Nat.le_refl _)]

theorem text_cut (s : List UInt8) (h : s.length ≤ most) : textC ((putL s.length ++ nums s).take ((putL s.length ++ nums s).length - 1), (false, ())) (s.length : Int) = ([], lost) := by
  have hn : (nums s).length = s.length := by simp [nums]
  have hp := sz_pos s.length
  cases hs : s.length with
  | zero =>
    have : s = [] := List.eq_nil_of_length_eq_zero hs
    subst this
    exact (by kernel_rfl : textC ((putL 0 ++ nums []).take ((putL 0 ++ nums []).length - 1), (false, ())) ((0 : Nat) : Int) = ([], lost))
  | succ m =>
    rw [← hs]
    have e : (putL s.length ++ nums s).take ((putL s.length ++ nums s).length - 1) = putL s.length ++ (nums s).take m := by
      rw [List.length_append, hn, show (putL s.length).length + s.length - 1 = (putL s.length).length + m by omega, List.take_append, List.take_of_length_le (by omega)]
      simp
    rw [e]
    unfold textC
    rw [num_put _ h _ _ (Int.le_refl _)]
    unfold takeC
    simp only
    rw [if_pos (by right; right; simp [hn]; omega)]
    rfl

theorem F11_eq (k : Nat) (a : Int) (s : List UInt8) : F11 (k + 50) a s = some ((true, ()), ()) := by
  rw [F11_step, show k + 49 = (k + 19) + 30 from rfl, F18_eq]
  simp only [bd_s, br_false, Bool.not_true]
  by_cases h : s.length ≤ 20000
  · rw [br_f (decide_eq_false (by omega))]
    have hm : s.length ≤ most := by unfold most; omega
    have h7 := sz_most hm
    have h34 : F34 (k + 19 + 30) s = some ((putL s.length ++ nums s, ()), ()) := F34_eq (k + 36) s h
    have hn : (nums s).length = s.length := by simp [nums]
    have hTb : Byt (putL s.length ++ nums s) := (putL_byt _ hm).append (nums_byt s)
    have hTl : (putL s.length ++ nums s).length ≤ 20007 := by rw [List.length_append, hn, putL_len]; omega
    have hT1 : 1 ≤ (putL s.length ++ nums s).length := by rw [List.length_append, putL_len]; have := sz_pos s.length; omega
    have hback := text_back s hm
    have hcut := text_cut s hm
    have f21 : ∀ l : List Int, l.length ≤ 30000 → F21 (k + 19 + 30) l = some (((l, (false, ())), ()), ()) := fun l hl => F21_eq (k + 47) l (by omega)
    have f22 : ∀ (c : Cur) (lim : Int), Byt c.1 → c.1.length ≤ 30000 → F22 (k + 19 + 30) c lim = some (((numC c lim).1, ()), ((numC c lim).2, ())) := fun c lim h1 h2 => F22_eq (k + 37) c lim h1 (by omega)
    have f36 : ∀ (c : Cur) (lim : Int), Byt c.1 → c.1.length ≤ 30000 → F36 (k + 19 + 30) c lim = some (((textC c lim).1, ()), ((textC c lim).2, ())) := fun c lim h1 h2 => F36_eq (k + 36) c lim h1 (by omega)
    have f37 : ∀ c : Cur, F37 (k + 19 + 30) c = some ((!c.2.1 && decide (c.1.length = 0), ()), ()) := fun c => F37_eq (k + 48) c
    have f23 : ∀ c : Cur, F23 (k + 19 + 30) c = some ((c.2.1, ()), ()) := fun c => F23_eq (k + 48) c
    generalize hT : putL s.length ++ nums s = T at *
    by_cases ha : 0 ≤ a ∧ a ≤ 562949953421311
    · obtain ⟨n, rfl⟩ : ∃ m : Nat, a = (m : Int) := ⟨a.toNat, by omega⟩
      have hmn : n ≤ most := by unfold most; omega
      have e1 : F19 (k + 19 + 30) (n : Int) = some ((putL n, (true, ())), ()) := F19_eq (k + 37) n hmn
      have hp := sz_pos n
      have h7n := sz_most hmn
      have hPl : (putL n).length ≤ 7 ∧ 1 ≤ (putL n).length := by rw [putL_len]; exact ⟨h7n, hp⟩
      have hPb := putL_byt n hmn
      have hal : (putL n ++ T).length = (putL n).length + T.length := List.length_append
      rw [e1]
      simp only [bd_s]
      rw [br_f (by simp; omega), h34]
      simp only [bd_s]
      rw [br_t (by simp; omega), f21 _ (by omega)]
      simp only [bd_s, br_true]
      rw [f22 _ _ (hPb.append hTb) (by simp; omega), num_put n hmn T _ (Int.le_refl _)]
      simp only [bd_s]
      rw [br_f (by simp), f36 _ _ hTb (by simp; omega), hback]
      simp only [bd_s]
      rw [br_f (by simp), f37]
      simp only [bd_s]
      rw [br_f (by simp), br_f (by simp only [beq_eq_false_iff_ne, ne_eq]; omega), IntWalk.i64_in _ ⟨by omega, by omega⟩, br_t (by simp [leB]; omega)]
      have et : List.take ((Int.toNat (((putL n ++ T).length : Int) - 1)) - 0) (List.drop 0 (putL n ++ T)) = putL n ++ T.take (T.length - 1) := by
        rw [List.drop_zero, Nat.sub_zero, show (((putL n ++ T).length : Int) - 1).toNat = (putL n).length + (T.length - 1) by omega, List.take_append, List.take_of_length_le (by omega)]
        simp
      rw [et, f21 _ (by simp; omega)]
      simp only [bd_s]
      rw [f22 _ _ (hPb.append (hTb.take _)) (by simp; omega), num_put n hmn _ _ (Int.le_refl _)]
      simp only [bd_s]
      rw [f36 _ _ (hTb.take _) (by simp; omega), hcut]
      simp only [bd_s]
      rw [br_t (by simp), f23]
      simp only [bd_s]
      rw [br_t (by simp [lost]), f37]
      simp [lost]
    · have e1 : F19 (k + 19 + 30) a = some (([], (false, ())), ()) := F19_no (k + 48) a (by omega)
      rw [e1]
      simp only [bd_s]
      have hc : (cond (decide (a ≥ 0)) (decide (a ≤ 562949953421311)) false) = false := by
        by_cases h0 : a ≥ 0
        · rw [decide_eq_true h0, cond_true]; exact decide_eq_false (by omega)
        · rw [decide_eq_false h0]; rfl
      rw [hc, br_f (by simp), h34]
      simp only [bd_s]
      rw [br_t (by simp; omega), f21 _ (by simp; omega)]
      simp only [bd_s, br_false, List.nil_append]
      rw [f36 _ _ hTb (by simp; omega), hback]
      simp only [bd_s]
      rw [br_f (by simp), f37]
      simp only [bd_s]
      rw [br_f (by simp), br_f (by simp only [beq_eq_false_iff_ne, ne_eq]; omega), IntWalk.i64_in _ ⟨by omega, by omega⟩, br_t (by simp [leB]; omega)]
      have et : List.take ((Int.toNat ((T.length : Int) - 1)) - 0) (List.drop 0 T) = T.take (T.length - 1) := by
        rw [List.drop_zero, Nat.sub_zero, show ((T.length : Int) - 1).toNat = T.length - 1 by omega]
      rw [et, f21 _ (by simp; omega)]
      simp only [bd_s]
      rw [f36 _ _ (hTb.take _) (by simp; omega), hcut]
      simp only [bd_s]
      rw [br_t (by simp), f23]
      simp only [bd_s]
      rw [br_t (by simp [lost]), f37]
      simp [lost]
  · rw [br_t (decide_eq_true (by omega))]

end Go.Proofs.Ytnffdeokhcojfaa.E

namespace Go.Proofs.Ytnffdeokhcojfaa.E
open Go
set_option linter.unusedSimpArgs false
set_option linter.unusedVariables false

/-- the ones ahead are taken off -/
def lead : Nat → Int → Int → Int → Int × (Int × (Int × Unit))
  | 0, a, b, c => (a, (b, (c, ())))
  | m + 1, a, b, c => match decide (a < 8) && decide (b ≥ c) with
    | true => lead m (IntKind.i64.wrap (a + 1)) (IntKind.i64.wrap (b - c)) (IntKind.i64.wrap (Int.tdiv c 2))
    | false => (a, (b, (c, ())))

theorem L38_0_eq (k : Nat) : ∀ (r m : Nat) (a b c : Int), 1 ≤ a → 8 - a < r → r ≤ 9 → r < m → L38_0 k m (a, (b, (c, ()))) = some (.brk (lead r a b c))
  | 0, m, a, b, c, h1, h2, h9, h3 => by
    cases m with
    | zero => omega
    | succ m =>
      rw [L38_0_step, br_f (by rw [decide_eq_false (by omega)]; rfl)]; rfl
  | r + 1, 0, a, b, c, h1, h2, h9, h3 => by omega
  | r + 1, m + 1, a, b, c, h1, h2, h9, h3 => by
    rw [L38_0_step]
    unfold lead
    by_cases ha : a < 8
    · by_cases hb : b ≥ c
      · rw [br_t (by rw [decide_eq_true ha, decide_eq_true hb]; rfl)]
        simp only [decide_eq_true ha, decide_eq_true hb, Bool.and_self]
        exact L38_0_eq k r m _ _ _ (by rw [IntWalk.i64_in _ ⟨by omega, by omega⟩]; omega) (by rw [IntWalk.i64_in _ ⟨by omega, by omega⟩]; omega) (by omega) (by omega)
      · rw [br_f (by rw [decide_eq_true ha, decide_eq_false hb]; rfl)]
        simp only [decide_eq_true ha, decide_eq_false hb, Bool.and_false]
    · rw [br_f (by rw [decide_eq_false ha]; rfl)]
      simp only [decide_eq_false ha, Bool.false_and]

theorem lead_eq (b : Nat) (h : b < 256) : (lead 9 1 (b : Int) 128).1 = ((min 8 (ldK b) : Nat) : Int) ∧ (ldK b ≤ 7 → (lead 9 1 (b : Int) 128).2.1 = ((b % 2 ^ (8 - ldK b) : Nat) : Int)) := by
  have key : ((List.range 256).all fun b => decide ((lead 9 1 (b : Int) 128).1 = ((min 8 (ldK b) : Nat) : Int)) && (Nat.blt 7 (ldK b) || decide ((lead 9 1 (b : Int) 128).2.1 = ((b % 2 ^ (8 - ldK b) : Nat) : Int)))) = true := by kernel_rfl
  have := List.all_eq_true.1 key b (List.mem_range.2 h)
  simp only [Bool.and_eq_true, Bool.or_eq_true, decide_eq_true_eq] at this
  refine ⟨this.1, fun hk => ?_⟩
  rcases this.2 with h2 | h2
  · rw [Nat.blt_eq] at h2; omega
  · exact h2

theorem L38_2_eq (k : Nat) (c : Cur) (K : Nat) (hb : Byt c.1) (hK : K ≤ c.1.length) (h7 : K ≤ 7) : ∀ (m i : Nat) (n : Int), i ≤ K → K - i < m → 0 ≤ n → n < ((2 ^ (8 * i) : Nat) : Int) →
    L38_2 k () (K : Int) m (c, (n, ((i : Int), ()))) = some (.brk (c, (val n ((c.1.take K).drop i), ((K : Int), ()))))
  | 0, i, n, h1, h2, h3, h4 => by omega
  | m + 1, i, n, h1, h2, h3, h4 => by
    rw [L38_2_step]
    by_cases h : i < K
    · have hx := hb (c.1.getD i 0) (by
        have : i < c.1.length := by omega
        simp [List.getD, this])
      have hp : 2 ^ (8 * i) ≤ 2 ^ 48 := Nat.pow_le_pow_right (by omega) (by omega)
      have hs : 2 ^ (8 * (i + 1)) = 2 ^ (8 * i) * 256 := by rw [Nat.mul_add, Nat.pow_add]
      rw [br_t (decide_eq_true (by omega)), br_t (inB_t ⟨by omega, by omega⟩), Int.toNat_natCast]
      have hd : (c.1.take K).drop i = c.1.getD i 0 :: (c.1.take K).drop (i + 1) := by
        have hi : i < (c.1.take K).length := by simp; omega
        rw [List.drop_eq_getElem_cons hi]
        have : i < c.1.length := by omega
        simp [List.getD, this]
      rw [hd]
      generalize c.1.getD i 0 = x at *
      rw [IntWalk.i64_in x ⟨by omega, by omega⟩, IntWalk.i64_in (n * 256) ⟨by omega, by omega⟩, IntWalk.i64_in (n * 256 + x) ⟨by omega, by omega⟩, IntWalk.i64_in _ ⟨by omega, by omega⟩]
      have := L38_2_eq k c K hb hK h7 m (i + 1) (n * 256 + x) (by omega) (by omega) (by omega) (by omega)
      rw [show ((i : Int) + 1) = ((i + 1 : Nat) : Int) by omega, this]
      rfl
    · have : i = K := by omega
      subst this
      rw [br_f (decide_eq_false (by omega)), List.drop_eq_nil_of_le (by simp; omega)]
      rfl

theorem F38_eq (k : Nat) (c : Cur) (lim : Int) (hc : Byt c.1) (hlc : c.2.1 = true → c.1 = []) :
    F38 (k + 20) c lim = some (((numC c lim).1, ()), ((numC c lim).2, ())) := by
  rw [F38_step]
  have f53 : ∀ c : Cur, F53 (k + 19) c = some ((), (lost, ())) := fun c => F53_eq (k + 18) c
  simp only [f53, bd_s]
  obtain ⟨l, t, u⟩ := c
  cases l with
  | nil => cases t <;> simp [numC]
  | cons b l =>
    have ht : t = false := by
      cases t with
      | false => rfl
      | true => exact absurd (hlc rfl) (by simp)
    subst ht
    have hbb := hc b (by simp)
    obtain ⟨b, rfl⟩ : ∃ n : Nat, b = (n : Int) := ⟨b.toNat, by omega⟩
    have hb : b < 256 := by omega
    have hcl : Byt l := fun x hx => hc x (by simp [hx])
    obtain ⟨hK1, hK9⟩ := ldK_range b hb
    obtain ⟨e1, e2⟩ := lead_eq b hb
    simp only [numC, Int.toNat_natCast]
    rw [br_false, br_f (by simp; omega), br_t (inB_t ⟨by omega, by simp⟩), show List.getD ((b : Int) :: l) 0 0 = (b : Int) from rfl, IntWalk.i64_in _ ⟨by omega, by omega⟩]
    rw [L38_0_eq (k + 19) 9 (k + 19) 1 (b : Int) 128 (by omega) (by omega) (by omega) (by omega), bdL_b]
    rw [e1]
    by_cases h7 : ldK b > 7
    · rw [br_t (decide_eq_true (by omega)), if_pos (.inr (.inl h7))]
    · rw [br_f (decide_eq_false (by omega))]
      have hmin : min 8 (ldK b) = ldK b := by omega
      rw [hmin]
      by_cases hlen : ldK b > l.length + 1
      · rw [if_pos (.inr (.inr hlen)), br_t (by simp; omega)]
      · rw [if_neg (by simp; omega), br_f (by simp; omega), e2 (by omega)]
        obtain ⟨K, hK⟩ : ∃ K, ldK b = K + 1 := ⟨ldK b - 1, by omega⟩
        rw [hK, Nat.add_sub_cancel]
        have hb8 : b % 2 ^ (8 - (K + 1)) < 256 := Nat.lt_of_le_of_lt (Nat.mod_le _ _) hb
        have hL : L38_2 (k + 19) () ((K + 1 : Nat) : Int) (k + 19) (((b : Int) :: l, (false, u)), (((b % 2 ^ (8 - (K + 1)) : Nat) : Int), ((1 : Int), ()))) = some (.brk (((b : Int) :: l, (false, u)), (val ((b % 2 ^ (8 - (K + 1)) : Nat) : Int) (l.take K), (((K + 1 : Nat) : Int), ())))) := by
          have := L38_2_eq (k + 19) ((b : Int) :: l, (false, u)) (K + 1) hc (by simp; omega) (by omega) (k + 19) 1 ((b % 2 ^ (8 - (K + 1)) : Nat) : Int) (by omega) (by omega) (by omega) (by omega)
          exact this
        rw [hL, bdL_b]
        dsimp only
        have hv := val_K (b := b) (l := l) (K := K + 1) hcl (by omega) (by omega) (by omega)
        rw [Nat.add_sub_cancel] at hv
        have e2 : ((b : Int) % 2 ^ (8 - (K + 1))) = ((b % 2 ^ (8 - (K + 1)) : Nat) : Int) := by simp
        rw [e2]
        generalize val ((b % 2 ^ (8 - (K + 1)) : Nat) : Int) (l.take K) = v at *
        obtain ⟨v, rfl⟩ : ∃ n : Nat, v = (n : Int) := ⟨v.toNat, by omega⟩
        obtain ⟨hvm, hsz⟩ := sz_K (n := v) (K := K + 1) (by omega) (by omega) (by omega)
        rw [show (k + 19) = (k + 7) + 12 from rfl, F33_eq _ _ hvm]
        simp only [bd_s, Int.toNat_natCast, putL_len]
        by_cases hcond : sz v ≠ K + 1 ∨ (v : Int) > lim
        · rw [if_pos hcond, br_t]
          rcases hcond with h | h
          · have : ((sz v : Int) != ((K + 1 : Nat) : Int)) = true := by simp only [bne_iff_ne, ne_eq]; omega
            rw [this]; rfl
          · rw [decide_eq_true h]; cases ((sz v : Int) != ((K + 1 : Nat) : Int)) <;> rfl
        · have h1 : sz v = K + 1 := by omega
          have h2 : ¬ ((v : Int) > lim) := by omega
          have h3 : ((sz v : Int) != ((K + 1 : Nat) : Int)) = false := by rw [h1]; simp
          rw [if_neg hcond, br_f (by rw [h3, decide_eq_false h2]; rfl), br_t (by simp [leB]; omega)]
          rfl

theorem F41_eq' (k : Nat) (c : Cur) (n : Int) (hl : c.1.length ≤ 140737488355328) : F41 (k + 2) c n = some (((takeC c n).1, ()), ((takeC c n).2.2, ())) := by
  rw [F41_step]
  have f53 : ∀ c : Cur, F53 (k + 1) c = some ((), (lost, ())) := fun c => F53_eq k c
  simp only [f53, bd_s]
  obtain ⟨l, b, u⟩ := c
  unfold takeC
  by_cases h1 : b = true
  · subst h1; simp [lost]
  · have hb : b = false := by simpa using h1
    subst hb
    by_cases h2 : n < 0
    · simp [h2, lost]
    · by_cases h3 : n > l.length
      · simp [h2, h3, lost]
      · have e1 : leB n l.length = true := leB_t ⟨by omega, by omega⟩
        have e2 : min n.toNat l.length ≤ 140737488355328 := by simp only at hl; omega
        simp [h2, h3, e1, e2]

/-- what is lost has nothing left -/
def Fit (c : Cur) : Prop := Byt c.1 ∧ (c.2.1 = true → c.1 = [])

theorem fit_lost : Fit lost := ⟨by intro x hx; simp [lost] at hx, fun _ => rfl⟩

theorem fit_take {c : Cur} (h : Fit c) (n : Int) : Fit (takeC c n).2.2 := by
  unfold takeC
  split
  · exact fit_lost
  · exact ⟨fun x hx => h.1 x (List.mem_of_mem_drop hx), fun h => by simp at h⟩

theorem fit_num {c : Cur} (h : Fit c) (lim : Int) : Fit (numC c lim).2 := by
  unfold numC
  split
  · exact fit_lost
  · rename_i b l hc
    split
    · exact fit_lost
    · dsimp only
      split
      · exact fit_lost
      · exact ⟨fun x hx => h.1 x (by rw [hc]; exact List.mem_cons_of_mem _ (List.mem_of_mem_drop hx)), fun h => by simp at h⟩

theorem len_take (c : Cur) (n : Int) : (takeC c n).2.2.1.length ≤ c.1.length := by
  unfold takeC
  split
  · simp
  · simp

theorem len_num (c : Cur) (lim : Int) : (numC c lim).2.1.length ≤ c.1.length := by
  unfold numC
  split
  · simp [lost]
  · rename_i b l hc
    rw [hc]
    split
    · simp [lost]
    · dsimp only
      split
      · simp [lost]
      · simp; omega

theorem num_nonneg {c : Cur} (h : Fit c) (lim : Int) : 0 ≤ (numC c lim).1 := by
  unfold numC
  split
  · exact Int.le_refl _
  · rename_i b l hc
    split
    · exact Int.le_refl _
    · rename_i h1
      simp only [not_or] at h1
      dsimp only
      split
      · exact Int.le_refl _
      · have hb := h.1 b (by rw [hc]; simp)
        have hl : Byt l := fun x hx => h.1 x (by rw [hc]; exact List.mem_cons_of_mem _ hx)
        have e : (b % 2 ^ (8 - ldK b.toNat)) = ((b.toNat % 2 ^ (8 - ldK b.toNat) : Nat) : Int) := by
          obtain ⟨b, rfl⟩ : ∃ n : Nat, b = (n : Int) := ⟨b.toNat, by omega⟩
          simp
        have hp := Nat.mod_lt b.toNat (Nat.two_pow_pos (8 - ldK b.toNat))
        rw [e]
        exact (val_bd _ _ (2 ^ (8 - ldK b.toNat)) (fun x hx => hl x (List.mem_of_mem_take hx)) (by omega) (by omega)).1

theorem F39_eq (k : Nat) (c : Cur) (lim : Int) (h : Fit c) (hl : c.1.length ≤ 140737488355328) : F39 (k + 21) c lim = some (((textC c lim).1, ()), ((textC c lim).2, ())) := by
  rw [F39_step, F38_eq _ _ _ h.1 h.2]
  have f53 : ∀ c : Cur, F53 (k + 20) c = some ((), (lost, ())) := fun c => F53_eq (k + 19) c
  simp only [bd_s, f53]
  unfold textC
  have hn := num_nonneg h lim
  have hle := len_num c lim
  generalize numC c lim = q at *
  obtain ⟨n, l, t, u⟩ := q
  cases t with
  | true => simp [takeC, txt, lost]
  | false =>
    rw [br_false]
    by_cases hh : n > l.length
    · rw [br_t (by simp; omega)]
      simp [takeC, hh, txt, lost]
    · rw [br_f (by simp; omega), show k + 20 = (k + 18) + 2 from rfl, F41_eq' _ _ _ (show l.length ≤ _ by simp only at hle; omega)]
      rfl

end Go.Proofs.Ytnffdeokhcojfaa.E

namespace Go.Proofs.Ytnffdeokhcojfaa.E
open Go
set_option linter.unusedSimpArgs false
set_option linter.unusedVariables false

theorem len_text (c : Cur) (lim : Int) : (textC c lim).2.1.length ≤ c.1.length := Nat.le_trans (len_take _ _) (len_num c lim)
theorem fit_text {c : Cur} (h : Fit c) (lim : Int) : Fit (textC c lim).2 := fit_take (fit_num h lim) _

theorem L12_0_eq (k : Nat) : ∀ (m i : Nat) (l : List Int), i ≤ l.length → l.length - i < m → l.length ≤ 5000 → ∃ z, L12_0 k () m (l, ((i : Int), ())) = some (.brk z)
  | 0, i, l, h1, h2, h3 => by omega
  | m + 1, i, l, h1, h2, h3 => by
    rw [L12_0_step]
    by_cases h : i < l.length
    · rw [br_t (decide_eq_true (by omega)), br_t (inB_t ⟨by omega, by omega⟩), br_t (inB_t ⟨by omega, by omega⟩), IntWalk.i64_in _ ⟨by omega, by omega⟩, show ((i : Int) + 1) = ((i + 1 : Nat) : Int) by omega]
      exact L12_0_eq k m (i + 1) _ (by simp; omega) (by simp; omega) (by simpa using h3)
    · rw [br_f (decide_eq_false (by omega))]
      exact ⟨_, rfl⟩

theorem tail12 {R : Type} (k : Nat) (c : Cur) (X L : Option R) :
    (bd (F23 (k + 1) c) fun r2 => br (boolEq (!(r2.1.1 == c.2.1)) false)
      (bd (F24 (k + 1) c) fun r3 => br (boolEq (cond false true (r3.1.1 != ((c.1.length : Nat) : Int))) false)
        (bd (F37 (k + 1) c) fun r4 => br (boolEq (!c.2.1) true)
          (br (cond false true (!(r4.1.1 == (cond true (((c.1.length : Nat) : Int) == (0 : Int)) false)))) X L)
          (br (cond false true (!(r4.1.1 == false))) X L)) none) none) = L := by
  simp only [F23_eq, F24_eq, F37_eq, bd_s]
  obtain ⟨l, t, u⟩ := c
  cases t with
  | true => simp [boolEq]
  | false =>
    by_cases h : l.length = 0
    · simp [boolEq, h]
    · have : ((l.length : Int) == 0) = false := by simp only [beq_eq_false_iff_ne, ne_eq]; omega
      simp [boolEq, h, this]

theorem L12_2_eq (q : Nat) (calls : List (Int × (Int × Unit))) (hc : calls.length ≤ 200) : ∀ (m i : Nat) (c : Cur) (x0 : Bool), i ≤ calls.length → calls.length - i < m → Fit c → c.1.length ≤ 5000 →
    ∃ z, L12_2 (q + 5100) calls () () m (x0, (c, (c, ((i : Int), ())))) = some (.brk z)
  | 0, i, c, x0, h1, h2, h3, h4 => by omega
  | m + 1, i, c, x0, h1, h2, h3, h4 => by
    rw [L12_2_step]
    by_cases h : i < calls.length
    · rw [br_t (decide_eq_true (by omega)), br_t (inB_t ⟨by omega, by omega⟩), br_t (inB_t ⟨by omega, by omega⟩), IntWalk.i64_in _ ⟨by omega, by omega⟩, show ((i : Int) + 1) = ((i + 1 : Nat) : Int) by omega]
      generalize List.getD calls (Int.toNat (i : Int)) ((0 : Int), ((0 : Int), ())) = v
      have hb : c.1.length ≤ 140737488355328 := by omega
      by_cases v0 : v.1 = 0
      · rw [br_t (by simpa using v0)]
        have e1 : F22 (q + 5100) c v.2.1 = _ := F22_eq (q + 5088) c v.2.1 h3.1 hb
        have e2 : F38 (q + 5100) c v.2.1 = _ := F38_eq (q + 5080) c v.2.1 h3.1 h3.2
        rw [e1, e2]
        simp only [bd_s]
        rw [br_f (by simp)]
        have := tail12 (q + 5099) (numC c v.2.1).2 (some (.ret (false, ()) ((numC c v.2.1).2, ((numC c v.2.1).2, ())))) (L12_2 (q + 5100) calls () () m (x0, ((numC c v.2.1).2, ((numC c v.2.1).2, (((i + 1 : Nat) : Int), ())))))
        refine Eq.subst (motive := fun t => ∃ z, t = some (LO.brk z)) this.symm ?_
        exact L12_2_eq q calls hc m (i + 1) _ x0 (by omega) (by omega) (fit_num h3 _) (Nat.le_trans (len_num _ _) h4)
      · rw [br_f (by simpa using v0)]
        by_cases v1 : v.1 = 1
        · rw [br_t (by simpa using v1)]
          have e1 : F36 (q + 5100) c v.2.1 = _ := F36_eq (q + 5087) c v.2.1 h3.1 hb
          have e2 : F39 (q + 5100) c v.2.1 = _ := F39_eq (q + 5079) c v.2.1 h3 hb
          rw [e1, e2]
          simp only [bd_s]
          rw [br_f (by simp)]
          have := tail12 (q + 5099) (textC c v.2.1).2 (some (.ret (false, ()) ((textC c v.2.1).2, ((textC c v.2.1).2, ())))) (L12_2 (q + 5100) calls () () m (x0, ((textC c v.2.1).2, ((textC c v.2.1).2, (((i + 1 : Nat) : Int), ())))))
          refine Eq.subst (motive := fun t => ∃ z, t = some (LO.brk z)) this.symm ?_
          exact L12_2_eq q calls hc m (i + 1) _ x0 (by omega) (by omega) (fit_text h3 _) (Nat.le_trans (len_text _ _) h4)
        · rw [br_f (by simpa using v1)]
          by_cases v2 : v.1 = 2
          · rw [br_t (by simpa using v2)]
            have e1 : F40 (q + 5100) c v.2.1 = _ := F40_eq (q + 5097) c v.2.1
            have e2 : F41 (q + 5100) c v.2.1 = _ := F41_eq' (q + 5098) c v.2.1 hb
            have hl : (takeC c v.2.1).1.length ≤ 5000 := by
              unfold takeC
              split
              · simp
              · simp; omega
            have e3 : F20 (q + 5100) (takeC c v.2.1).1 (takeC c v.2.1).1 = _ := F20_eq (q + 5099) _ _ (by omega) (by omega)
            rw [e1, e2]
            simp only [bd_s]
            rw [e3]
            simp only [bd_s]
            rw [br_f (by simp)]
            have := tail12 (q + 5099) (takeC c v.2.1).2.2 (some (.ret (false, ()) ((takeC c v.2.1).2.2, ((takeC c v.2.1).2.2, ())))) (L12_2 (q + 5100) calls () () m (x0, ((takeC c v.2.1).2.2, ((takeC c v.2.1).2.2, (((i + 1 : Nat) : Int), ())))))
            refine Eq.subst (motive := fun t => ∃ z, t = some (LO.brk z)) this.symm ?_
            exact L12_2_eq q calls hc m (i + 1) _ x0 (by omega) (by omega) (fit_take h3 _) (Nat.le_trans (len_take _ _) h4)
          · rw [br_f (by simpa using v2)]
            have := tail12 (q + 5099) c (some (.ret (false, ()) (c, (c, ())))) (L12_2 (q + 5100) calls () () m (x0, (c, (c, (((i + 1 : Nat) : Int), ())))))
            refine Eq.subst (motive := fun t => ∃ z, t = some (LO.brk z)) this.symm ?_
            exact L12_2_eq q calls hc m (i + 1) c x0 (by omega) (by omega) h3 h4
    · rw [br_f (decide_eq_false (by omega))]
      exact ⟨_, rfl⟩

theorem F12_eq (q : Nat) (b : List Int) (calls : List (Int × (Int × Unit))) (hb : Byt b) : F12 (q + 5101) b calls = some ((true, ()), ()) := by
  rw [F12_step, show F18 (q + 5100) = _ from F18_eq (q + 5070)]
  simp only [bd_s, br_false, Bool.not_true]
  by_cases h : b.length ≤ 5000 ∧ calls.length ≤ 200
  · rw [br_f (by rw [decide_eq_false (by omega)]; exact decide_eq_false (by omega))]
    have e25 : F25 (q + 5100) b = _ := F25_eq (q + 5099) b (by omega)
    have e21 : F21 (q + 5100) b = _ := F21_eq (q + 5098) b (by omega)
    have e20 : F20 (q + 5100) b b = _ := F20_eq (q + 5099) b b (by omega) (by omega)
    rw [e25]
    simp only [bd_s]
    rw [e21]
    simp only [bd_s]
    rw [e20]
    simp only [bd_s]
    rw [br_f (by simp)]
    obtain ⟨z, hz⟩ := L12_0_eq (q + 5100) (q + 5100) 0 b (by omega) (by omega) h.1
    rw [show (0 : Int) = ((0 : Nat) : Int) from rfl, hz]
    simp only [bdL_b]
    obtain ⟨y, hy⟩ := L12_2_eq q calls h.2 (q + 5100) 0 (b, (false, ())) false (by omega) (by omega) ⟨hb, fun h => by simp at h⟩ h.1
    rw [hy]
    rfl
  · rw [br_t (by
      by_cases h5 : b.length ≤ 5000
      · rw [decide_eq_false (by omega)]; exact decide_eq_true (by omega)
      · rw [decide_eq_true (by omega)]; rfl)]

theorem tail13 {R : Type} (k : Nat) (c c' : Cur) (x2 : Bool) (n : Int) (X : Option R) (L : Bool → Option R) (h3 : Fit c') (hx : x2 = true → n = 0 ∧ c'.2.1 = true) (hn : c'.2.1 = true → n = 0) :
    (br x2
      (br (n != (0 : Int)) X
        (bd (F23 (k + 1) c') fun r1 => br (cond true (cond false true (!r1.1.1)) false) X
          (bd (F23 (k + 1) c') fun r2 => br r2.1.1
            (br (n != (0 : Int)) X
              (bd (F24 (k + 1) c') fun r3 => br (cond false true (r3.1.1 != (0 : Int))) X
                (bd (F37 (k + 1) c') fun r4 => br (cond false true (cond true (cond false true r4.1.1) false)) X
                  (bd (F23 (k + 1) c') fun r5 => L r5.1.1))))
            (bd (F23 (k + 1) c') fun r3 => L r3.1.1))))
      (bd (F23 (k + 1) c') fun r1 => br r1.1.1
        (br (n != (0 : Int)) X
          (bd (F24 (k + 1) c') fun r2 => br (cond false true (r2.1.1 != (0 : Int))) X
            (bd (F37 (k + 1) c') fun r3 => br (cond false true (cond true (cond false true r3.1.1) false)) X
              (bd (F23 (k + 1) c') fun r4 => L r4.1.1))))
        (bd (F23 (k + 1) c') fun r2 => L r2.1.1))) = L c'.2.1 := by
  simp only [F23_eq, F24_eq, F37_eq, bd_s]
  obtain ⟨l, t, u⟩ := c'
  have hf : t = true → l = [] := h3.2
  cases x2 with
  | true =>
    obtain ⟨h1, h2⟩ := hx rfl
    have h2 : t = true := h2
    obtain rfl := hf h2
    subst h2
    subst h1
    simp
  | false =>
    cases t with
    | true =>
      have h1 := hn rfl
      obtain rfl := hf rfl
      subst h1
      simp
    | false => simp

theorem num_lost0 {c : Cur} (h : Fit c) (hl : c.2.1 = true) (lim : Int) : numC c lim = (0, lost) := by
  unfold numC; rw [h.2 hl]

theorem take_lost {c : Cur} (hl : c.2.1 = true) (n : Int) : takeC c n = ([], false, lost) := by
  unfold takeC; rw [if_pos (.inl hl)]; rfl

theorem take_no {c : Cur} {n : Int} (h : (takeC c n).2.2.2.1 = true) : (takeC c n).1 = [] := by
  unfold takeC at h ⊢
  split
  · rfl
  · rename_i h1; rw [if_neg h1] at h; simp at h

theorem text_lost0 {c : Cur} (h : Fit c) (hl : c.2.1 = true) (lim : Int) : textC c lim = ([], lost) := by
  unfold textC; rw [num_lost0 h hl, take_lost (by rfl)]; rfl

theorem text_no {c : Cur} {n : Int} (h : (textC c n).2.2.1 = true) : (textC c n).1 = [] := by
  unfold textC at h ⊢
  simp only at h ⊢
  rw [take_no h]; rfl

theorem L13_0_eq (q : Nat) (calls : List (Int × (Int × Unit))) (hc : calls.length ≤ 200) : ∀ (m i : Nat) (c : Cur) (x0 x2 : Bool), i ≤ calls.length → calls.length - i < m → Fit c → c.1.length ≤ 5000 → (x2 = true → c.2.1 = true) →
    ∃ z, L13_0 (q + 50) calls () m (x0, (c, (x2, ((i : Int), ())))) = some (.brk z)
  | 0, i, c, x0, x2, h1, h2, h3, h4, h5 => by omega
  | m + 1, i, c, x0, x2, h1, h2, h3, h4, h5 => by
    rw [L13_0_step]
    by_cases h : i < calls.length
    · rw [br_t (decide_eq_true (by omega)), br_t (inB_t ⟨by omega, by omega⟩), IntWalk.i64_in _ ⟨by omega, by omega⟩, show ((i : Int) + 1) = ((i + 1 : Nat) : Int) by omega]
      generalize List.getD calls (Int.toNat (i : Int)) ((0 : Int), ((0 : Int), ())) = v
      have hb : c.1.length ≤ 140737488355328 := by omega
      by_cases v0 : v.1 = 0
      · rw [br_t (by simpa using v0), br_t (inB_t ⟨by omega, by omega⟩)]
        have e1 : F22 (q + 50) c v.2.1 = _ := F22_eq (q + 38) c v.2.1 h3.1 hb
        rw [e1]
        simp only [bd_s]
        have := tail13 (q + 49) c (numC c v.2.1).2 x2 (numC c v.2.1).1 (some (.ret (false, ()) ((numC c v.2.1).2, ()))) (fun t => L13_0 (q + 50) calls () m (x0, ((numC c v.2.1).2, (t, (((i + 1 : Nat) : Int), ()))))) (fit_num h3 _)
          (fun hx => by rw [num_lost0 h3 (h5 hx)]; exact ⟨rfl, rfl⟩) (fun hx => by rw [num_lost hx])
        refine Eq.subst (motive := fun t => ∃ z, t = some (LO.brk z)) this.symm ?_
        exact L13_0_eq q calls hc m (i + 1) _ x0 _ (by omega) (by omega) (fit_num h3 _) (Nat.le_trans (len_num _ _) h4) (fun h => h)
      · rw [br_f (by simpa using v0)]
        by_cases v1 : v.1 = 1
        · rw [br_t (by simpa using v1), br_t (inB_t ⟨by omega, by omega⟩)]
          have e1 : F36 (q + 50) c v.2.1 = _ := F36_eq (q + 37) c v.2.1 h3.1 hb
          rw [e1]
          simp only [bd_s]
          have := tail13 (q + 49) c (textC c v.2.1).2 x2 ((textC c v.2.1).1.length : Int) (some (.ret (false, ()) ((textC c v.2.1).2, ()))) (fun t => L13_0 (q + 50) calls () m (x0, ((textC c v.2.1).2, (t, (((i + 1 : Nat) : Int), ()))))) (fit_text h3 _)
            (fun hx => by rw [text_lost0 h3 (h5 hx)]; exact ⟨rfl, rfl⟩) (fun hx => by rw [text_no hx]; rfl)
          refine Eq.subst (motive := fun t => ∃ z, t = some (LO.brk z)) this.symm ?_
          exact L13_0_eq q calls hc m (i + 1) _ x0 _ (by omega) (by omega) (fit_text h3 _) (Nat.le_trans (len_text _ _) h4) (fun h => h)
        · rw [br_f (by simpa using v1)]
          by_cases v2 : v.1 = 2
          · rw [br_t (by simpa using v2), br_t (inB_t ⟨by omega, by omega⟩)]
            have e1 : F40 (q + 50) c v.2.1 = _ := F40_eq (q + 47) c v.2.1
            rw [e1]
            simp only [bd_s]
            have := tail13 (q + 49) c (takeC c v.2.1).2.2 x2 ((takeC c v.2.1).1.length : Int) (some (.ret (false, ()) ((takeC c v.2.1).2.2, ()))) (fun t => L13_0 (q + 50) calls () m (x0, ((takeC c v.2.1).2.2, (t, (((i + 1 : Nat) : Int), ()))))) (fit_take h3 _)
              (fun hx => by rw [take_lost (h5 hx)]; exact ⟨rfl, rfl⟩) (fun hx => by rw [take_no hx]; rfl)
            refine Eq.subst (motive := fun t => ∃ z, t = some (LO.brk z)) this.symm ?_
            exact L13_0_eq q calls hc m (i + 1) _ x0 _ (by omega) (by omega) (fit_take h3 _) (Nat.le_trans (len_take _ _) h4) (fun h => h)
          · rw [br_f (by simpa using v2)]
            have := tail13 (q + 49) c c x2 0 (some (.ret (false, ()) (c, ()))) (fun t => L13_0 (q + 50) calls () m (x0, (c, (t, (((i + 1 : Nat) : Int), ()))))) h3
              (fun hx => ⟨rfl, h5 hx⟩) (fun _ => rfl)
            refine Eq.subst (motive := fun t => ∃ z, t = some (LO.brk z)) this.symm ?_
            exact L13_0_eq q calls hc m (i + 1) c x0 _ (by omega) (by omega) h3 h4 (fun h => h)
    · rw [br_f (decide_eq_false (by omega))]
      exact ⟨_, rfl⟩

theorem F13_eq (q : Nat) (b : List Int) (calls : List (Int × (Int × Unit))) (hb : Byt b) : F13 (q + 301) b calls = some ((true, ()), ()) := by
  rw [F13_step, show F18 (q + 300) = _ from F18_eq (q + 270)]
  simp only [bd_s, br_false, Bool.not_true]
  by_cases h : b.length ≤ 5000 ∧ calls.length ≤ 200
  · rw [br_f (by rw [decide_eq_false (by omega)]; exact decide_eq_false (by omega))]
    have e21 : F21 (q + 300) b = _ := F21_eq (q + 298) b (by omega)
    rw [e21]
    simp only [bd_s]
    obtain ⟨y, hy⟩ := L13_0_eq (q + 250) calls h.2 (q + 300) 0 (b, (false, ())) false false (by omega) (by omega) ⟨hb, fun h => by simp at h⟩ h.1 (fun h => by cases h)
    rw [show (0 : Int) = ((0 : Nat) : Int) from rfl]
    have hy' : L13_0 (q + 300) calls () (q + 300) (false, ((b, (false, ())), (false, (((0 : Nat) : Int), ())))) = some (.brk y) := hy
    rw [hy']
    rfl
  · rw [br_t (by
      by_cases h5 : b.length ≤ 5000
      · rw [decide_eq_false (by omega)]; exact decide_eq_true (by omega)
      · rw [decide_eq_true (by omega)]; rfl)]

theorem byt_of {b : List Int} (h : inTy (.sl false (.int .u8)) b) : Byt b := by
  intro x hx
  have := h.2 x hx
  simp [inTy, IntKind.min, IntKind.max, IntKind.signed, IntKind.bits] at this
  omega

end Go.Proofs.Ytnffdeokhcojfaa.E
