/- The forms of the functions, and plain laws on what they come to. No condition. -/
import Derived.Test.YtkfikongenapfaaDoorOpListsPA
import Derived.Test.YtkfikongenapfaaDoorProg
import Derived.KernelRfl
import Derived.IntWalk

namespace Go.Proofs.YtkfikongenapfaaDoor.E
open Go
set_option linter.unusedSimpArgs false
set_option linter.unusedVariables false
/-! what was put is taken -/
theorem num_back (n : Int) (h : 0 ≤ n ∧ n ≤ 562949953421311) (rest : List Int) (lim : Int) (hl : n ≤ lim) : numC (putN n ++ rest, (false, ())) lim = (n, (rest, (false, ()))) := by
  unfold putN
  rw [if_pos h]
  obtain ⟨m, rfl⟩ : ∃ m : Nat, n = (m : Int) := ⟨n.toNat, by omega⟩
  rw [Int.toNat_natCast]
  exact num_put m (by unfold most; omega) rest lim hl

def okI (i : TId) : Prop := (0 ≤ i.1 ∧ i.1 ≤ great) ∧ (0 ≤ i.2.1 ∧ i.2.1 ≤ great)

def okC (c : TChar) : Prop := okI c.1 ∧ (0 ≤ c.2.1 ∧ c.2.1 ≤ great)

def okK (c : TCut) : Prop := okI c.1 ∧ (0 ≤ c.2.1 ∧ c.2.1 ≤ great) ∧ (0 ≤ c.2.2.1 ∧ c.2.2.1 ≤ great)

theorem name_back (i : TId) (h : okI i) (rest : List Int) : nameG (nameP i ++ rest, (false, ())) = (i, (rest, (false, ()))) := by
  obtain ⟨a, b, u⟩ := i
  obtain ⟨h1, h2⟩ := h
  simp only [great] at h1 h2
  unfold nameG nameP
  simp only [List.append_assoc]
  rw [num_back a ⟨by omega, by omega⟩ _ _ h1.2]
  simp only
  rw [num_back b ⟨by omega, by omega⟩ _ _ h2.2]

theorem char_back (c : TChar) (h : okC c) (rest : List Int) : charG (charP c ++ rest, (false, ())) = (c, (rest, (false, ()))) := by
  obtain ⟨i, b, u⟩ := c
  obtain ⟨h1, h2⟩ := h
  simp only [great] at h2
  unfold charG charP
  simp only [List.append_assoc]
  rw [name_back i h1]
  simp only
  rw [num_back b ⟨by omega, by omega⟩ _ _ h2.2]

theorem cut_back (c : TCut) (h : okK c) (rest : List Int) : cutG (cutP c ++ rest, (false, ())) = (c, (rest, (false, ()))) := by
  obtain ⟨i, b, d, u⟩ := c
  obtain ⟨h1, h2, h3⟩ := h
  simp only [great] at h2 h3
  unfold cutG cutP
  simp only [List.append_assoc]
  rw [name_back i h1]
  simp only
  rw [num_back b ⟨by omega, by omega⟩ _ _ h2.2]
  simp only
  rw [num_back d ⟨by omega, by omega⟩ _ _ h3.2]

theorem cuts_back : ∀ (l : List TCut), (∀ c ∈ l, okK c) → ∀ rest : List Int, cutsG l.length ((l.map cutP).flatten ++ rest, (false, ())) = (l, (rest, (false, ())))
  | [], _, rest => by simp [cutsG]
  | c :: l, h, rest => by
    simp only [List.length_cons, List.map_cons, List.flatten_cons, List.append_assoc, cutsG]
    rw [cut_back c (h c (by simp))]
    simp only
    rw [cuts_back l (fun x hx => h x (by simp [hx]))]

theorem textP_back (s : List UInt8) (h : s.length ≤ 20000) (rest : List Int) : textC (textP s ++ rest, (false, ())) great = (s, (rest, (false, ()))) := by
  unfold textC textP
  rw [List.append_assoc, num_put s.length (by unfold most; omega) _ _ (by simp only [great]; omega)]
  have hl : (nums s).length = s.length := by simp [nums]
  simp only
  unfold takeC
  rw [if_neg (by simp [hl]; omega)]
  simp only [Int.toNat_natCast]
  rw [List.take_left' hl, List.drop_left' hl, txt_nums]

theorem okI_of {i : TId} (h : rightOp i = true) : okI i := by
  simp [rightOp] at h
  simp only [okI, great]; omega

theorem okI_block {i : TId} (h : rightBlock i = true) : okI i := by
  simp only [rightBlock, Bool.or_eq_true, decide_eq_true_eq] at h
  rcases h with (rfl | rfl) | h
  · simp [okI, great]
  · simp [okI, great]
  · exact okI_of h

theorem okC_of {c : TChar} (h : rightChar c = true) : okC c := by
  simp only [rightChar, Bool.or_eq_true, Bool.and_eq_true, decide_eq_true_eq] at h
  rcases h with rfl | ⟨⟨h, h1⟩, h2⟩
  · simp [okC, okI, great]
  · refine ⟨okI_of h, ?_⟩
    simp only [great]; omega

theorem okK_of {c : TCut} (h : rightCut c = true) : okK c := by
  simp only [rightCut, Bool.and_eq_true, decide_eq_true_eq] at h
  obtain ⟨⟨⟨h, h1⟩, h2⟩, h3⟩ := h
  refine ⟨okI_of h, ?_, ?_⟩ <;> simp only [great] <;> omega

theorem part_back (p : Int) (o w : TOp) (hr : partRight p o = true) (hw : w.2.2.2.2.2.2.2.2.2.2.1 = []) (rest : List Int) :
    partGet p (partPut p o ++ rest, (false, ())) w = ((rest, (false, ())), partCopy p w o) := by
  obtain ⟨kd, i, t, blk, par, key, seg, lf, rt, tx, cu, fl, u⟩ := o
  obtain ⟨kd', i', t', blk', par', key', seg', lf', rt', tx', cu', fl', u'⟩ := w
  simp only at hw
  subst hw
  unfold partGet partPut partCopy
  unfold partRight at hr
  dsimp only at hr ⊢
  by_cases e0 : p = 0
  · simp only [if_pos e0] at hr ⊢
    rw [name_back _ (okI_of hr)]
  simp only [if_neg e0] at hr ⊢
  by_cases e1 : p = 1
  · simp only [if_pos e1, Bool.and_eq_true] at hr ⊢
    rw [List.append_assoc, name_back _ (okI_of hr.1.1)]
    simp only
    rw [List.append_assoc, char_back _ (okC_of hr.1.2)]
    simp only
    rw [char_back _ (okC_of hr.2)]
  simp only [if_neg e1] at hr ⊢
  by_cases e2 : p = 2
  · simp only [if_pos e2, Bool.and_eq_true] at hr ⊢
    rw [List.append_assoc, name_back _ (okI_block hr.1)]
    simp only
    rw [textP_back _ (by have := hr.2; simp [rightKey] at this; omega)]
  simp only [if_neg e2] at hr ⊢
  by_cases e3 : p = 3
  · simp only [if_pos e3, Bool.and_eq_true, decide_eq_true_eq] at hr ⊢
    rw [textP_back _ (by omega)]
  simp only [if_neg e3] at hr ⊢
  by_cases e4 : p = 4
  · simp only [if_pos e4, Bool.and_eq_true, decide_eq_true_eq] at hr ⊢
    rw [List.append_assoc, num_back _ ⟨by omega, by omega⟩ _ _ (by omega)]
    simp only [Int.toNat_natCast]
    rw [cuts_back _ (fun c hc => okK_of (List.all_eq_true.1 hr.2 c hc))]
    simp
  simp only [if_neg e4] at hr ⊢
  by_cases e5 : p = 5
  · simp only [if_pos e5] at hr ⊢
    cases fl with
    | true =>
      simp only [if_true]
      rw [num_back 1 ⟨by omega, by omega⟩ _ _ (by omega)]; rfl
    | false =>
      simp only [Bool.false_eq_true, if_false]
      rw [num_back 0 ⟨by omega, by omega⟩ _ _ (by omega)]; rfl
  simp only [if_neg e5]
  simp

theorem right_kind {o : TOp} (h : right o = true) : 1 ≤ o.1 ∧ o.1 ≤ 6 := by
  unfold right at h
  simp only [Bool.and_eq_true, Bool.not_eq_true', beq_eq_false_iff_ne] at h
  have := h.1.1.1.1
  rcases parts_cases o.1 with ⟨e, _⟩ | ⟨e, _⟩ | ⟨e, _⟩ | ⟨e, _⟩ | ⟨e, _⟩ | ⟨e, _⟩ | e
  · omega
  · omega
  · omega
  · omega
  · omega
  · omega
  · rw [e] at this; simp at this

theorem dec_back {o : TOp} (h : right o = true) (rest : List Int) : decC (enc o ++ rest) = ((rest, (false, ())), o) := by
  have hk := right_kind h
  unfold right at h
  simp only [Bool.and_eq_true, decide_eq_true_eq] at h
  obtain ⟨⟨⟨⟨_, hst⟩, hid⟩, ha⟩, ho⟩ := h
  unfold decC enc
  simp only [List.append_assoc]
  rw [num_back o.1 ⟨by omega, by omega⟩ _ _ (by simp only [great]; omega)]
  simp only
  rw [name_back _ (okI_of hid)]
  simp only
  have ht : 0 ≤ o.2.2.1 ∧ o.2.2.1 ≤ 1099511627776 := by
    simp [rightStamp] at hst; omega
  rw [num_back o.2.2.1 ⟨by omega, by omega⟩ _ _ (by simp only [great]; omega)]
  simp only
  unfold own at ho
  have hb : ((o.1, o.2.1, o.2.2.1, (0, 0, ()), (0, 0, ()), [], (0, 0, ()), ((0, 0, ()), 0, ()), ((0, 0, ()), 0, ()), [], [], false, ()) : TOp) = bare o := rfl
  rw [hb]
  have c0 : (bare o).2.2.2.2.2.2.2.2.2.2.1 = [] := rfl
  have two : ∀ p q : Int, p ≠ 4 → partRight p o = true → partRight q o = true → ∀ rest, List.foldl (fun (s : Cur × TOp) p => partGet p s.1 s.2) ((partPut p o ++ (partPut q o ++ rest), (false, ())), bare o) [p, q] = ((rest, (false, ())), partCopy q (partCopy p (bare o) o) o) := by
    intro p q hp h1 h2 rest
    simp only [List.foldl_cons, List.foldl_nil]
    rw [part_back p o _ h1 c0]
    simp only
    rw [part_back q o _ h2]
    obtain ⟨kd, i, t, blk, par, key, seg, lf, rt, tx, cu, fl, u⟩ := o
    unfold partCopy
    simp only [bare]
    repeat' split
    all_goals first | rfl | (rename_i e; exact (hp e).elim) | skip
    all_goals simp_all
  have one : ∀ p : Int, partRight p o = true → ∀ rest, List.foldl (fun (s : Cur × TOp) p => partGet p s.1 s.2) ((partPut p o ++ rest, (false, ())), bare o) [p] = ((rest, (false, ())), partCopy p (bare o) o) := by
    intro p h1 rest
    simp only [List.foldl_cons, List.foldl_nil]
    rw [part_back p o _ h1 c0]
  rcases parts_cases o.1 with ⟨_, hp⟩ | ⟨_, hp⟩ | ⟨_, hp⟩ | ⟨_, hp⟩ | ⟨_, hp⟩ | ⟨_, hp⟩ | hp <;> rw [hp] at ho ha ⊢ <;>
    simp only [List.all_cons, List.all_nil, Bool.and_true, Bool.and_eq_true, List.map_cons, List.map_nil, List.flatten_cons, List.flatten_nil, List.append_nil, List.append_assoc] at ha ⊢
  · rw [one _ ha]; rw [show partCopy 2 (bare o) o = o from ho]
  · rw [two _ _ (by decide) ha.1 ha.2]; rw [show partCopy 2 (partCopy 0 (bare o) o) o = o from ho]
  · rw [two _ _ (by decide) ha.1 ha.2]; rw [show partCopy 3 (partCopy 1 (bare o) o) o = o from ho]
  · rw [one _ ha]; rw [show partCopy 4 (bare o) o = o from ho]
  · rw [two _ _ (by decide) ha.1 ha.2]; rw [show partCopy 2 (partCopy 1 (bare o) o) o = o from ho]
  · rw [two _ _ (by decide) ha.1 ha.2]; rw [show partCopy 5 (partCopy 0 (bare o) o) o = o from ho]
  · simp only [List.foldl_nil, List.nil_append] at ho ⊢; rw [ho]

theorem dec_enc {o : TOp} (h : right o = true) : dec (enc o) = (o, (true, ())) := by
  unfold dec
  have := dec_back h []
  rw [List.append_nil] at this
  rw [this]
  simp [ended, h]

end Go.Proofs.YtkfikongenapfaaDoor.E

namespace Go.Proofs.YtkfikongenapfaaDoor.E
open Go
set_option linter.unusedSimpArgs false
set_option linter.unusedVariables false
/-! what is taken was put -/
theorem putN_byt (n : Int) : Byt (putN n) := by
  unfold putN
  split
  · exact putL_byt _ (by unfold most; omega)
  · intro x hx; simp at hx

theorem nameP_byt (i : TId) : Byt (nameP i) := Byt.append (putN_byt _) (putN_byt _)

theorem charP_byt (c : TChar) : Byt (charP c) := Byt.append (nameP_byt _) (putN_byt _)

theorem cutP_byt (c : TCut) : Byt (cutP c) := Byt.append (nameP_byt _) (Byt.append (putN_byt _) (putN_byt _))

theorem textP_byt (s : List UInt8) (h : s.length ≤ 20000) : Byt (textP s) := Byt.append (putL_byt _ (by unfold most; omega)) (nums_byt s)

theorem flat_byt {l : List (List Int)} (h : ∀ x ∈ l, Byt x) : Byt l.flatten := fun y hy => by
  obtain ⟨x, hx, hy⟩ := List.mem_flatten.1 hy
  exact h x hx y hy

theorem partPut_byt {o : TOp} (h : smallOp o) (p : Int) : Byt (partPut p o) := by
  obtain ⟨kd, i, t, blk, par, key, seg, lf, rt, tx, cu, fl, u⟩ := o
  obtain ⟨h1, h2, h3⟩ := h
  simp only at h1 h2 h3
  unfold partPut
  dsimp only
  split
  · exact nameP_byt _
  split
  · exact Byt.append (nameP_byt _) (Byt.append (charP_byt _) (charP_byt _))
  split
  · exact Byt.append (nameP_byt _) (textP_byt _ h1)
  split
  · exact textP_byt _ h2
  split
  · exact Byt.append (putN_byt _) (flat_byt fun x hx => by obtain ⟨c, _, rfl⟩ := List.mem_map.1 hx; exact cutP_byt c)
  split
  · exact putN_byt _
  · intro x hx; simp at hx

theorem enc_byt {o : TOp} (h : smallOp o) : Byt (enc o) :=
  Byt.append (putN_byt _) (Byt.append (nameP_byt _) (Byt.append (putN_byt _) (flat_byt fun x hx => by obtain ⟨p, _, rfl⟩ := List.mem_map.1 hx; exact partPut_byt h p)))

/-- what is taken was put -/
def Only {α : Type} (P : α → List Int) (G : Cur → α × Cur) : Prop := ∀ b, Byt b → (G (b, (false, ()))).2.2.1 = false → ∃ rest, (G (b, (false, ()))).2 = (rest, (false, ())) ∧ b = P (G (b, (false, ()))).1 ++ rest

/-- what is lost stays lost -/
def Stays {α : Type} (G : Cur → α × Cur) : Prop := ∀ c, Fit c → c.2.1 = true → (G c).2.2.1 = true

def Fits {α : Type} (G : Cur → α × Cur) : Prop := ∀ c, Fit c → Fit (G c).2

theorem num_stays (lim : Int) : Stays (fun c => numC c lim) := fun c h hl => by simp only; rw [num_lost0 h hl]; rfl

theorem num_fits (lim : Int) : Fits (fun c => numC c lim) := fun c h => fit_num h lim

theorem num_only (lim : Int) (hl : lim ≤ 562949953421311) : Only putN (fun c => numC c lim) := by
  intro b hb h
  simp only at h ⊢
  obtain ⟨n, h1, h2, h3⟩ := put_num hb hl h
  refine ⟨(numC (b, (false, ())) lim).2.1, ?_, ?_⟩
  · have : (numC (b, (false, ())) lim).2.2.1 = false := h
    obtain ⟨x, l, u⟩ : ∃ x l, (numC (b, (false, ())) lim).2 = (x, (l, ())) := ⟨_, _, rfl⟩
    rw [u] at this ⊢
    simp only at this
    rw [this]
  · rw [h2]
    unfold putN most at *
    rw [if_pos ⟨by omega, by omega⟩, Int.toNat_natCast]
    exact h3

theorem fit0 {b : List Int} (hb : Byt b) : Fit (b, (false, ())) := ⟨hb, fun h => by cases h⟩

theorem byt_drop {a b : List Int} (h : Byt (a ++ b)) : Byt b := fun x hx => h x (by simp [hx])

theorem seq_only {α β : Type} {P : α → List Int} {G : Cur → α × Cur} {Q : β → List Int} {H : Cur → β × Cur} (h1 : Only P G) (f1 : Fits G) (h2 : Only Q H) (s2 : Stays H) {b : List Int} (hb : Byt b)
    (h : (H (G (b, (false, ()))).2).2.2.1 = false) : ∃ r rest, (G (b, (false, ()))).2 = (r, (false, ())) ∧ Byt r ∧ (H (r, (false, ()))).2 = (rest, (false, ())) ∧ b = P (G (b, (false, ()))).1 ++ (Q (H (r, (false, ()))).1 ++ rest) := by
  have hg : (G (b, (false, ()))).2.2.1 = false := by
    cases hc : (G (b, (false, ()))).2.2.1 with
    | false => rfl
    | true => rw [s2 _ (f1 _ (fit0 hb)) hc] at h; cases h
  obtain ⟨r, e1, e2⟩ := h1 b hb hg
  rw [e1] at h
  have hr : Byt r := byt_drop (e2 ▸ hb)
  obtain ⟨rest, e3, e4⟩ := h2 r hr h
  exact ⟨r, rest, e1, hr, e3, by rw [← e4, ← e2]⟩

theorem name_only : Only nameP nameG := by
  intro b hb h
  obtain ⟨r, rest, e1, _, e3, e4⟩ := seq_only (num_only great (by decide)) (num_fits great) (num_only great (by decide)) (num_stays great) hb h
  try simp only at e1 e3 e4
  refine ⟨rest, ?_, ?_⟩
  · unfold nameG; simp only; rw [e1]; exact e3
  · unfold nameG nameP; simp only; rw [e1, List.append_assoc]; exact e4

theorem name_fits : Fits nameG := fun c h => fit_num (fit_num h _) _

theorem name_stays : Stays nameG := fun c h hl => num_stays great _ (fit_num h _) (num_stays great c h hl)

theorem char_only : Only charP charG := by
  intro b hb h
  obtain ⟨r, rest, e1, _, e3, e4⟩ := seq_only name_only name_fits (num_only great (by decide)) (num_stays great) hb h
  try simp only at e1 e3 e4
  refine ⟨rest, ?_, ?_⟩
  · unfold charG; simp only; rw [e1]; exact e3
  · unfold charG charP; simp only; rw [e1, List.append_assoc]; exact e4

theorem char_fits : Fits charG := fun c h => fit_num (name_fits c h) _

theorem char_stays : Stays charG := fun c h hl => num_stays great _ (name_fits c h) (name_stays c h hl)

theorem cut_only : Only cutP cutG := by
  intro b hb h
  have h2 : Only (fun x : Int × Int => putN x.1 ++ putN x.2) (fun c => (((numC c great).1, (numC (numC c great).2 great).1), (numC (numC c great).2 great).2)) := by
    intro b hb h
    obtain ⟨r, rest, e1, _, e3, e4⟩ := seq_only (num_only great (by decide)) (num_fits great) (num_only great (by decide)) (num_stays great) hb h
    try simp only at e1 e3 e4
    refine ⟨rest, ?_, ?_⟩
    · simp only; rw [e1]; exact e3
    · simp only; rw [e1, List.append_assoc]; exact e4
  have s2 : Stays (fun c => (((numC c great).1, (numC (numC c great).2 great).1), (numC (numC c great).2 great).2)) := fun c h hl => num_stays great _ (fit_num h _) (num_stays great c h hl)
  obtain ⟨r, rest, e1, _, e3, e4⟩ := seq_only name_only name_fits h2 s2 hb h
  try simp only at e1 e3 e4
  refine ⟨rest, ?_, ?_⟩
  · unfold cutG; simp only; rw [e1]; exact e3
  · unfold cutG cutP; simp only; rw [e1, List.append_assoc, List.append_assoc]; rw [List.append_assoc] at e4; exact e4

theorem cut_fits : Fits cutG := fun c h => fit_num (fit_num (name_fits c h) _) _

theorem cut_stays : Stays cutG := fun c h hl => num_stays great _ (fit_num (name_fits c h) _) (num_stays great _ (name_fits c h) (name_stays c h hl))

theorem cuts_fits : ∀ n, Fits (cutsG n)
  | 0, _, h => h
  | n + 1, c, h => cuts_fits n _ (cut_fits c h)

theorem cuts_stays : ∀ n, Stays (cutsG n)
  | 0, _, _, h => h
  | n + 1, c, h, hl => cuts_stays n _ (cut_fits c h) (cut_stays c h hl)

theorem cuts_only : ∀ n, Only (fun l : List TCut => (l.map cutP).flatten) (cutsG n)
  | 0, b, _, h => ⟨b, rfl, by simp [cutsG]⟩
  | n + 1, b, hb, h => by
    obtain ⟨r, rest, e1, _, e3, e4⟩ := seq_only cut_only cut_fits (cuts_only n) (cuts_stays n) hb h
    try simp only at e1 e3 e4
    refine ⟨rest, ?_, ?_⟩
    · simp only [cutsG]; rw [e1]; exact e3
    · simp only [cutsG, List.map_cons, List.flatten_cons]; rw [e1, List.append_assoc]; exact e4

theorem text_fits : Fits (fun c => textC c great) := fun c h => fit_text h _

theorem text_stays : Stays (fun c => textC c great) := fun c h hl => by simp only; rw [text_lost0 h hl]; rfl

theorem nums_txt {l : List Int} (h : Byt l) : nums (txt l) = l := by
  unfold nums txt
  rw [List.map_map]
  conv => rhs; rw [← List.map_id l]
  apply List.map_congr_left
  intro x hx
  have := h x hx
  simp only [Function.comp_apply, id_eq]
  have e : (UInt8.ofNat x.toNat).toNat = x.toNat := by
    rw [UInt8.toNat_ofNat']; omega
  rw [e]; omega

theorem text_only : Only textP (fun c => textC c great) := by
  intro b hb h
  simp only at h ⊢
  unfold textC at h ⊢
  simp only at h ⊢
  have hn : (numC (b, (false, ())) great).2.2.1 = false := by
    cases hc : (numC (b, (false, ())) great).2.2.1 with
    | false => rfl
    | true =>
      unfold takeC at h
      rw [if_pos (.inl hc)] at h; simp at h
  obtain ⟨r, e1, e2⟩ := num_only great (by decide) b hb hn
  simp only at e1 e2
  rw [e1] at h ⊢
  have h0 := num_nonneg (fit0 hb) great
  generalize (numC (b, (false, ())) great).1 = n at *
  unfold takeC at h ⊢
  by_cases hc : ((r, (false, ())) : Cur).2.1 = true ∨ n < 0 ∨ n > ((r, (false, ())) : Cur).1.length
  · rw [if_pos hc] at h; simp at h
  · rw [if_neg hc]
    simp only [not_or, Bool.false_eq_true] at hc
    simp only
    have hle : n.toNat ≤ r.length := by have := hc.2.2; omega
    refine ⟨r.drop n.toNat, rfl, ?_⟩
    have hl : (txt (r.take n.toNat)).length = n.toNat := by simp [txt]; omega
    unfold textP
    have hbr : Byt (r.take n.toNat) := Byt.take (byt_drop (e2 ▸ hb)) _
    rw [hl, nums_txt hbr, List.append_assoc, List.take_append_drop]
    have h1 := num_le (fit0 hb) (lim := great) (by decide)
    rw [e2]
    congr 1
    unfold putN
    by_cases hr : 0 ≤ n ∧ n ≤ 562949953421311
    · rw [if_pos hr]
    · exfalso
      have hb2 : b = putN n ++ r := e2
      have hput := put_num hb (lim := great) (by decide) hn
      obtain ⟨m, hm, _, hb3⟩ := hput
      rw [e1] at hb3
      unfold putN at hb2
      rw [if_neg hr] at hb2
      have := congrArg List.length (hb2.symm.trans hb3)
      have := sz_pos m
      simp [putL_len] at *
      omega

end Go.Proofs.YtkfikongenapfaaDoor.E

namespace Go.Proofs.YtkfikongenapfaaDoor.E
open Go
set_option linter.unusedSimpArgs false
set_option linter.unusedVariables false
theorem part_fit {p : Int} {c : Cur} {o : TOp} (h : Fit c) : Fit (partGet p c o).1 := by
  obtain ⟨kd, i, t, blk, par, key, seg, lf, rt, tx, cu, fl, u⟩ := o
  unfold partGet
  dsimp only
  split
  · exact name_fits c h
  split
  · exact char_fits _ (char_fits _ (name_fits c h))
  split
  · exact text_fits _ (name_fits c h)
  split
  · exact text_fits c h
  split
  · exact cuts_fits _ _ (fit_num h _)
  split
  · exact fit_num h _
  · exact h

theorem part_stays {p : Int} {c : Cur} {o : TOp} (h : Fit c) (hl : c.2.1 = true) : (partGet p c o).1.2.1 = true := by
  obtain ⟨kd, i, t, blk, par, key, seg, lf, rt, tx, cu, fl, u⟩ := o
  unfold partGet
  dsimp only
  split
  · exact name_stays c h hl
  split
  · exact char_stays _ (char_fits _ (name_fits c h)) (char_stays _ (name_fits c h) (name_stays c h hl))
  split
  · exact text_stays _ (name_fits c h) (name_stays c h hl)
  split
  · exact text_stays c h hl
  split
  · exact cuts_stays _ _ (fit_num h _) (num_stays _ c h hl)
  split
  · exact num_stays _ c h hl
  · exact hl

theorem part_only {p : Int} {b : List Int} {o : TOp} (hb : Byt b) (hc : o.2.2.2.2.2.2.2.2.2.2.1 = []) (h : (partGet p (b, (false, ())) o).1.2.1 = false) :
    ∃ rest, (partGet p (b, (false, ())) o).1 = (rest, (false, ())) ∧ b = partPut p (partGet p (b, (false, ())) o).2 ++ rest := by
  obtain ⟨kd, i, t, blk, par, key, seg, lf, rt, tx, cu, fl, u⟩ := o
  simp only at hc
  subst hc
  unfold partGet partPut at *
  dsimp only at h ⊢
  by_cases e0 : p = 0
  · simp only [if_pos e0] at h ⊢
    exact name_only b hb h
  simp only [if_neg e0] at h ⊢
  by_cases e1 : p = 1
  · simp only [if_pos e1] at h ⊢
    have h2 : Only (fun x : TChar × TChar => charP x.1 ++ charP x.2) (fun c => (((charG c).1, (charG (charG c).2).1), (charG (charG c).2).2)) := by
      intro b hb h
      obtain ⟨r, rest, g1, _, g3, g4⟩ := seq_only char_only char_fits char_only char_stays hb h
      refine ⟨rest, ?_, ?_⟩
      · simp only; rw [g1]; exact g3
      · simp only; rw [g1, List.append_assoc]; exact g4
    have s2 : Stays (fun c => (((charG c).1, (charG (charG c).2).1), (charG (charG c).2).2)) := fun c h hl => char_stays _ (char_fits c h) (char_stays c h hl)
    obtain ⟨r, rest, g1, _, g3, g4⟩ := seq_only name_only name_fits h2 s2 hb h
    refine ⟨rest, ?_, ?_⟩
    · rw [g1]; exact g3
    · rw [g1, List.append_assoc]; exact g4
  simp only [if_neg e1] at h ⊢
  by_cases e2 : p = 2
  · simp only [if_pos e2] at h ⊢
    obtain ⟨r, rest, g1, _, g3, g4⟩ := seq_only name_only name_fits text_only text_stays hb h
    refine ⟨rest, ?_, ?_⟩
    · rw [g1]; exact g3
    · rw [g1, List.append_assoc]; exact g4
  simp only [if_neg e2] at h ⊢
  by_cases e3 : p = 3
  · simp only [if_pos e3] at h ⊢
    exact text_only b hb h
  simp only [if_neg e3] at h ⊢
  by_cases e4 : p = 4
  · simp only [if_pos e4, List.nil_append] at h ⊢
    obtain ⟨r, rest, g1, _, g3, g4⟩ := seq_only (num_only 16 (by decide)) (num_fits 16) (cuts_only (numC (b, (false, ())) 16).1.toNat) (cuts_stays _) hb h
    try simp only at g1 g3 g4
    refine ⟨rest, ?_, ?_⟩
    · rw [g1]; exact g3
    · rw [g1, cutsG_len]
      have := num_nonneg (fit0 hb) 16
      rw [show (((numC (b, (false, ())) 16).1.toNat : Nat) : Int) = (numC (b, (false, ())) 16).1 by omega, List.append_assoc]
      exact g4
  simp only [if_neg e4] at h ⊢
  by_cases e5 : p = 5
  · simp only [if_pos e5] at h ⊢
    obtain ⟨rest, g1, g2⟩ := num_only 1 (by decide) b hb h
    simp only at g1 g2
    refine ⟨rest, g1, ?_⟩
    have h0 := num_nonneg (fit0 hb) 1
    have h1 := num_le (fit0 hb) (lim := 1) (by decide)
    have : (if ((numC (b, (false, ())) 1).1 == 1) = true then (1 : Int) else 0) = (numC (b, (false, ())) 1).1 := by
      by_cases e : (numC (b, (false, ())) 1).1 = 1
      · simp [e]
      · have : (numC (b, (false, ())) 1).1 = 0 := by omega
        simp [this]
    rw [this]; exact g2
  simp only [if_neg e5] at h ⊢
  exact ⟨b, rfl, rfl⟩

theorem part_keeps (p q : Int) (c : Cur) (o : TOp) (h : (p = 0 ∧ (q = 2 ∨ q = 5)) ∨ (p = 1 ∧ (q = 3 ∨ q = 2))) : partPut p (partGet q c o).2 = partPut p o := by
  obtain ⟨kd, i, t, blk, par, key, seg, lf, rt, tx, cu, fl, u⟩ := o
  rcases h with ⟨rfl, rfl | rfl⟩ | ⟨rfl, rfl | rfl⟩ <;> simp [partPut, partGet]

theorem part_head (q : Int) (c : Cur) (o : TOp) : (partGet q c o).2.1 = o.1 ∧ (partGet q c o).2.2.1 = o.2.1 ∧ (partGet q c o).2.2.2.1 = o.2.2.1 := by
  obtain ⟨kd, i, t, blk, par, key, seg, lf, rt, tx, cu, fl, u⟩ := o
  unfold partGet
  dsimp only
  repeat' split
  all_goals exact ⟨rfl, rfl, rfl⟩

theorem part_cuts (q : Int) (hq : q ≠ 4) (c : Cur) (o : TOp) : (partGet q c o).2.2.2.2.2.2.2.2.2.2.2.1 = o.2.2.2.2.2.2.2.2.2.2.1 := by
  obtain ⟨kd, i, t, blk, par, key, seg, lf, rt, tx, cu, fl, u⟩ := o
  unfold partGet
  dsimp only
  rw [if_neg hq]
  repeat' split
  all_goals rfl

/-- bytes that are an op are those that are put -/
theorem decC_only {b : List Int} (hb : Byt b) (h : (decC b).1.2.1 = false) : (decC b).1 = ((decC b).1.1, (false, ())) ∧ b = enc (decC b).2 ++ (decC b).1.1 := by
  unfold decC at h ⊢
  simp only at h ⊢
  have hf0 := fit0 hb
  have hf1 := fit_num hf0 great
  have hf2 := name_fits _ hf1
  have hf3 := fit_num hf2 great
  generalize hz : (fun a b c => ((a, b, c, (0, 0, ()), (0, 0, ()), [], (0, 0, ()), ((0, 0, ()), 0, ()), ((0, 0, ()), 0, ()), [], [], false, ()) : TOp)) = z
  have hz1 : ∀ a b c, ((a, b, c, (0, 0, ()), (0, 0, ()), [], (0, 0, ()), ((0, 0, ()), 0, ()), ((0, 0, ()), 0, ()), [], [], false, ()) : TOp) = z a b c := fun a b c => by rw [← hz]
  rw [hz1] at h ⊢
  have z1 : ∀ a b c, (z a b c).1 = a := fun a b c => by rw [← hz]
  have z2 : ∀ a b c, (z a b c).2.1 = b := fun a b c => by rw [← hz]
  have z3 : ∀ a b c, (z a b c).2.2.1 = c := fun a b c => by rw [← hz]
  have z4 : ∀ a b c, (z a b c).2.2.2.2.2.2.2.2.2.2.1 = [] := fun a b c => by rw [← hz]
  -- all of it: first not lost
  have fold_stays : ∀ (ps : List Int) (c : Cur) (o : TOp), Fit c → c.2.1 = true → (ps.foldl (fun (s : Cur × TOp) p => partGet p s.1 s.2) (c, o)).1.2.1 = true := by
    intro ps
    induction ps with
    | nil => intro c o _ hl; exact hl
    | cons p ps ih => intro c o hc hl; exact ih _ _ (part_fit hc) (part_stays hc hl)
  have nl3 : (numC (nameG (numC (b, (false, ())) great).2).2 great).2.2.1 = false := by
    cases hc : (numC (nameG (numC (b, (false, ())) great).2).2 great).2.2.1 with
    | false => rfl
    | true => rw [fold_stays _ _ _ hf3 hc] at h; cases h
  have nl2 : (nameG (numC (b, (false, ())) great).2).2.2.1 = false := by
    cases hc : (nameG (numC (b, (false, ())) great).2).2.2.1 with
    | false => rfl
    | true => rw [num_stays great _ hf2 hc] at nl3; cases nl3
  have nl1 : (numC (b, (false, ())) great).2.2.1 = false := by
    cases hc : (numC (b, (false, ())) great).2.2.1 with
    | false => rfl
    | true => rw [name_stays _ hf1 hc] at nl2; cases nl2
  obtain ⟨r1, e1, g1⟩ := num_only great (by decide) b hb nl1
  simp only at e1 g1
  rw [e1] at nl2 nl3 hf1 hf2 hf3 h ⊢
  have hb1 : Byt r1 := byt_drop (g1 ▸ hb)
  obtain ⟨r2, e2, g2⟩ := name_only r1 hb1 nl2
  rw [e2] at nl3 hf2 hf3 h ⊢
  have hb2 : Byt r2 := byt_drop (g2 ▸ hb1)
  obtain ⟨r3, e3, g3⟩ := num_only great (by decide) r2 hb2 nl3
  simp only at e3 g3
  rw [e3] at hf3 h ⊢
  have hb3 : Byt r3 := byt_drop (g3 ▸ hb2)
  generalize (numC (b, (false, ())) great).1 = k at *
  generalize (nameG (r1, (false, ()))).1 = i at *
  generalize (numC (r2, (false, ())) great).1 = t at *
  have hd : b = putN k ++ (nameP i ++ (putN t ++ r3)) := by rw [← g3, ← g2, ← g1]
  have fin : ∀ (c : Cur) (o : TOp), c.2.1 = false → (o.1 = k ∧ o.2.1 = i ∧ o.2.2.1 = t) → r3 = ((parts k).map fun p => partPut p o).flatten ++ c.1 → c = (c.1, (false, ())) ∧ b = enc o ++ c.1 := by
    rintro ⟨x, l, u⟩ o hl ⟨h1, h2, h3⟩ hr
    simp only at hl
    subst hl
    refine ⟨rfl, ?_⟩
    unfold enc
    rw [h1, h2, h3, hd, hr]
    simp [List.append_assoc]
  have hzz := fun q c => part_head q c (z k i t)
  simp only [z1, z2, z3] at hzz
  have one : ∀ p : Int, parts k = [p] → (partGet p (r3, (false, ())) (z k i t)).1.2.1 = false → (partGet p (r3, (false, ())) (z k i t)).1 = ((partGet p (r3, (false, ())) (z k i t)).1.1, (false, ())) ∧ b = enc (partGet p (r3, (false, ())) (z k i t)).2 ++ (partGet p (r3, (false, ())) (z k i t)).1.1 := by
    intro p hp hl
    obtain ⟨rest, f1, f2⟩ := part_only hb3 (z4 k i t) hl
    refine fin _ _ hl (hzz p _) ?_
    rw [hp, f1]
    simpa using f2
  have two : ∀ p q : Int, parts k = [p, q] → p ≠ 4 → ((p = 0 ∧ (q = 2 ∨ q = 5)) ∨ (p = 1 ∧ (q = 3 ∨ q = 2))) →
      ∀ s, s = partGet q (partGet p (r3, (false, ())) (z k i t)).1 (partGet p (r3, (false, ())) (z k i t)).2 → s.1.2.1 = false → s.1 = (s.1.1, (false, ())) ∧ b = enc s.2 ++ s.1.1 := by
    intro p q hp h4 hpq s hs hl
    have nl : (partGet p (r3, (false, ())) (z k i t)).1.2.1 = false := by
      cases hc : (partGet p (r3, (false, ())) (z k i t)).1.2.1 with
      | false => rfl
      | true => rw [hs, part_stays (part_fit hf3) hc] at hl; cases hl
    obtain ⟨rest, f1, f2⟩ := part_only hb3 (z4 k i t) nl
    have hbr : Byt rest := byt_drop (f2 ▸ hb3)
    have hcu := part_cuts p h4 (r3, (false, ())) (z k i t)
    rw [z4] at hcu
    rw [f1] at hs
    subst hs
    obtain ⟨rest2, f3, f4⟩ := part_only hbr hcu hl
    obtain ⟨h1, h2, h3⟩ := part_head q (rest, (false, ())) (partGet p (r3, (false, ())) (z k i t)).2
    obtain ⟨j1, j2, j3⟩ := hzz p (r3, (false, ()))
    refine fin _ _ hl ⟨h1.trans j1, h2.trans j2, h3.trans j3⟩ ?_
    rw [hp]
    simp only [List.map_cons, List.map_nil, List.flatten_cons, List.flatten_nil, List.append_nil, List.append_assoc]
    rw [part_keeps p q _ _ hpq, f3]
    simp only
    rw [← f4]
    exact f2
  rcases parts_cases k with ⟨_, hp⟩ | ⟨_, hp⟩ | ⟨_, hp⟩ | ⟨_, hp⟩ | ⟨_, hp⟩ | ⟨_, hp⟩ | hp <;> rw [hp] at h ⊢ <;> simp only [List.foldl_cons, List.foldl_nil] at h ⊢
  · exact one 2 hp h
  · exact two 0 2 hp (by decide) (by decide) _ rfl h
  · exact two 1 3 hp (by decide) (by decide) _ rfl h
  · exact one 4 hp h
  · exact two 1 2 hp (by decide) (by decide) _ rfl h
  · exact two 0 5 hp (by decide) (by decide) _ rfl h
  · exact ⟨trivial, (fin (r3, (false, ())) (z k i t) rfl ⟨z1 _ _ _, z2 _ _ _, z3 _ _ _⟩ (by rw [hp]; simp)).2⟩

theorem dec_only {b : List Int} (hb : Byt b) (h : (dec b).2.1 = true) : right (dec b).1 = true ∧ b = enc (dec b).1 := by
  unfold dec at h ⊢
  cases hc : (ended (decC b).1 && right (decC b).2) with
  | false => rw [hc] at h; simp at h
  | true =>
    simp only [if_true]
    rw [Bool.and_eq_true] at hc
    refine ⟨hc.2, ?_⟩
    have he := hc.1
    simp only [ended, Bool.and_eq_true, Bool.not_eq_true', decide_eq_true_eq] at he
    have := (decC_only hb he.1).2
    rw [List.length_eq_zero_iff.1 he.2, List.append_nil] at this
    exact this

theorem enc_ne {o : TOp} (h : right o = true) : enc o ≠ [] := by
  intro e
  have := right_kind h
  have h2 := congrArg List.length e
  unfold enc putN at h2
  rw [if_pos (by omega)] at h2
  simp [putL_len] at h2
  have := sz_pos o.1.toNat
  omega

end Go.Proofs.YtkfikongenapfaaDoor.E

namespace Go.Proofs.YtkfikongenapfaaDoor.E
open Go
set_option linter.unusedSimpArgs false
set_option linter.unusedVariables false
/-! what the laws compare with -/
theorem F_ref00SameOp_eq (k : Nat) (a b : TOp) (hk : a.2.2.2.2.2.2.2.2.2.2.1.length = b.2.2.2.2.2.2.2.2.2.2.1.length → a.2.2.2.2.2.2.2.2.2.2.1.length < k ∧ a.2.2.2.2.2.2.2.2.2.2.1.length ≤ 4611686018427387903) :
    F_ref00SameOp (k + 1) a b = some ((decide (a = b), ()), ()) := by
  obtain ⟨kd, i, t, blk, par, key, seg, lf, rt, tx, cu, fl, u⟩ := a
  obtain ⟨kd', i', t', blk', par', key', seg', lf', rt', tx', cu', fl', u'⟩ := b
  rw [F_ref00SameOp_step]
  dsimp only at hk ⊢
  simp only [eqI, eqC, cond_t]
  have hcase : (kd = kd' ∧ i = i' ∧ t = t' ∧ blk = blk' ∧ par = par' ∧ key = key' ∧ seg = seg' ∧ lf = lf' ∧ rt = rt' ∧ tx = tx' ∧ fl = fl' ∧ cu.length = cu'.length) ∨
      ¬ (kd = kd' ∧ i = i' ∧ t = t' ∧ blk = blk' ∧ par = par' ∧ key = key' ∧ seg = seg' ∧ lf = lf' ∧ rt = rt' ∧ tx = tx' ∧ fl = fl' ∧ cu.length = cu'.length) := Classical.em _
  rcases hcase with ⟨rfl, rfl, rfl, rfl, rfl, rfl, rfl, rfl, rfl, rfl, rfl, hl⟩ | hn
  · obtain ⟨h1, h2⟩ := hk hl
    rw [br_f (by simp [hl])]
    have key2 : ∀ (m j : Nat), j ≤ cu.length → cu.length - j < m →
        ((∃ x, L_ref00SameOp_0 k (kd, i, t, blk, par, key, seg, lf, rt, tx, cu, fl, u) (kd, i, t, blk, par, key, seg, lf, rt, tx, cu', fl, u') m (false, ((j : Int), ())) = some (.brk x)) ∧ cu.drop j = cu'.drop j) ∨
        (L_ref00SameOp_0 k (kd, i, t, blk, par, key, seg, lf, rt, tx, cu, fl, u) (kd, i, t, blk, par, key, seg, lf, rt, tx, cu', fl, u') m (false, ((j : Int), ())) = some (.ret (false, ()) ()) ∧ cu.drop j ≠ cu'.drop j) := by
      intro m
      induction m with
      | zero => intro j _ h; omega
      | succ m ih =>
        intro j h3 h4
        rw [L_ref00SameOp_0_step]
        dsimp only
        by_cases h : j < cu.length
        · have h' : j < cu'.length := by omega
          rw [br_t (i_lt h)]
          simp only [i_in h, i_in h', br_true, both_self]
          rw [getD_of h, getD_of (l := cu') (by omega), i_nx (by omega), List.drop_eq_getElem_cons h, List.drop_eq_getElem_cons (l := cu') (by omega)]
          simp only [eqK]
          by_cases he : cu[j] = cu'[j]'(by omega)
          · rw [br_f (by simp [he])]
            rcases ih (j + 1) (by omega) (by omega) with ⟨x, e⟩ | ⟨x, e⟩
            · exact .inl ⟨x, by rw [he, e]⟩
            · exact .inr ⟨x, fun e' => e (List.cons.inj e').2⟩
          · rw [br_t (by simp [he])]
            exact .inr ⟨rfl, by intro e; exact he (List.cons.inj e).1⟩
        · have : j = cu.length := by omega
          subst this
          rw [br_f (i_ge _)]
          refine .inl ⟨⟨_, rfl⟩, ?_⟩
          rw [List.drop_eq_nil_of_le (Nat.le_refl _), List.drop_eq_nil_of_le (by omega)]
    rcases key2 k 0 (by omega) (by omega) with ⟨⟨x, e⟩, e2⟩ | ⟨e, e2⟩
    · rw [show ((0 : Nat) : Int) = 0 from rfl] at e
      rw [e]
      simp at e2
      simp [e2]
    · rw [show ((0 : Nat) : Int) = 0 from rfl] at e
      rw [e]
      simp at e2
      simp [e2]
  · rw [br_t]
    · have : ((kd, i, t, blk, par, key, seg, lf, rt, tx, cu, fl, u) : TOp) ≠ (kd', i', t', blk', par', key', seg', lf', rt', tx', cu', fl', u') := by
        intro e
        simp only [Prod.mk.injEq] at e
        obtain ⟨h1, h2, h3, h4, h5, h6, h7, h8, h9, h10, h11, h12, _⟩ := e
        exact hn ⟨h1, h2, h3, h4, h5, h6, h7, h8, h9, h10, h12, by rw [h11]⟩
      rw [decide_eq_false this]
    · cases hb : (kd != kd' || !decide (i = i') || t != t' || !decide (blk = blk') || !decide (par = par') || !key == key' || !decide (seg = seg') || !decide (lf = lf') || !decide (rt = rt') || !tx == tx' || !fl == fl' || ((cu.length : Nat) : Int) != ((cu'.length : Nat) : Int)) with
      | true => rfl
      | false =>
        exfalso
        apply hn
        simp only [Bool.or_eq_false_iff, bne_eq_false_iff_eq, Bool.not_eq_false', decide_eq_true_eq, beq_iff_eq] at hb
        obtain ⟨⟨⟨⟨⟨⟨⟨⟨⟨⟨⟨h1, h2⟩, h3⟩, h4⟩, h5⟩, h6⟩, h7⟩, h8⟩, h9⟩, h10⟩, h11⟩, h12⟩ := hb
        exact ⟨h1, h2, h3, h4, h5, h6, h7, h8, h9, h10, h11, by omega⟩

def longOp (o : TOp) : Bool := decide (o.2.2.2.2.2.2.2.2.2.1.length > 200) || decide (o.2.2.2.2.2.1.length > 200) || decide (o.2.2.2.2.2.2.2.2.2.2.1.length > 40)

theorem F_ref00Long_eq (k : Nat) (l : List TOp) (n : Int) (hk : (l.length : Int) ≤ n → l.length < k ∧ l.length ≤ 4611686018427387903) : F_ref00Long (k + 1) l n = some ((decide ((l.length : Int) > n) || l.any longOp, ()), ()) := by
  rw [F_ref00Long_step]
  by_cases hn : (l.length : Int) > n
  · rw [br_t (by simpa using hn)]; simp [hn]
  · obtain ⟨h1, h2⟩ := hk (by omega)
    rw [br_f (by simpa using hn)]
    have key : ∀ (m i : Nat), i ≤ l.length → l.length - i < m →
        ((∃ x, L_ref00Long_0 k l m (false, ((i : Int), ())) = some (.brk x)) ∧ (l.drop i).any longOp = false) ∨
        (L_ref00Long_0 k l m (false, ((i : Int), ())) = some (.ret (true, ()) ()) ∧ (l.drop i).any longOp = true) := by
      intro m
      induction m with
      | zero => intro i _ h; omega
      | succ m ih =>
        intro i h3 h4
        rw [L_ref00Long_0_step]
        by_cases h : i < l.length
        · rw [br_t (i_lt h), br_t (i_in h), br_t (i_in h), br_t (i_in h), getD_of h, i_nx (by omega), List.drop_eq_getElem_cons h]
          simp only [List.any_cons, Bool.cond_false, longOp]
          have c1 : ∀ n : Nat, decide (((n : Nat) : Int) > 200) = decide (n > 200) := fun n => by apply decide_eq_decide.2; omega
          have c2 : ∀ n : Nat, decide (((n : Nat) : Int) > 40) = decide (n > 40) := fun n => by apply decide_eq_decide.2; omega
          rw [c1, c1, c2]
          cases hc1 : decide (l[i].2.2.2.2.2.2.2.2.2.1.length > 200) with
          | true => exact .inr ⟨rfl, rfl⟩
          | false =>
            cases hc2 : decide (l[i].2.2.2.2.2.1.length > 200) with
            | true => exact .inr ⟨rfl, rfl⟩
            | false =>
              cases hc3 : decide (l[i].2.2.2.2.2.2.2.2.2.2.1.length > 40) with
              | true => exact .inr ⟨rfl, rfl⟩
              | false =>
                rcases ih (i + 1) (by omega) (by omega) with ⟨x, e⟩ | ⟨x, e⟩
                · exact .inl ⟨x, by simpa using e⟩
                · exact .inr ⟨x, by simpa using e⟩
        · have : i = l.length := by omega
          subst this
          rw [br_f (i_ge _)]
          exact .inl ⟨⟨_, rfl⟩, by simp⟩
    rcases key k 0 (by omega) (by omega) with ⟨⟨x, e⟩, e2⟩ | ⟨e, e2⟩
    · rw [show ((0 : Nat) : Int) = 0 from rfl] at e
      rw [e]
      simp only [List.drop_zero] at e2
      simp [e2, hn]
    · rw [show ((0 : Nat) : Int) = 0 from rfl] at e
      rw [e]
      simp only [List.drop_zero] at e2
      simp [e2, hn]

/-! whom an op names -/
theorem F_slicesContainsapiId_eq (k : Nat) (l : List TId) (x : TId) (hk : l.length < k ∧ l.length ≤ 4611686018427387903) : F_slicesContainsapiId (k + 2) l x = some ((decide (x ∈ l), ()), ()) := by
  rw [F_slicesContainsapiId_step, F_slicesIndexapiId_step]
  obtain ⟨h1, h2⟩ := hk
  have key : ∀ (m i : Nat), i ≤ l.length → l.length - i < m →
      ((∃ z, L_slicesIndexapiId_0 k l x (l.length : Int) m (0, ((i : Int), ())) = some (.brk z)) ∧ x ∉ l.drop i) ∨
      ((∃ j : Nat, L_slicesIndexapiId_0 k l x (l.length : Int) m (0, ((i : Int), ())) = some (.ret ((j : Int), ()) ())) ∧ x ∈ l.drop i) := by
    intro m
    induction m with
    | zero => intro i _ h; omega
    | succ m ih =>
      intro i h3 h4
      rw [L_slicesIndexapiId_0_step]
      by_cases h : i < l.length
      · rw [br_t (i_lt h), br_t (i_in h), getD_of h, i_nx (by omega), List.drop_eq_getElem_cons h]
        simp only [eqI]
        by_cases he : x = l[i]
        · rw [br_t (by simp [he])]
          exact .inr ⟨⟨i, rfl⟩, by rw [← he]; simp⟩
        · rw [br_f (by simp [he])]
          rcases ih (i + 1) (by omega) (by omega) with ⟨z, e⟩ | ⟨z, e⟩
          · exact .inl ⟨z, by simp only [List.mem_cons, not_or]; exact ⟨he, e⟩⟩
          · exact .inr ⟨z, by simp only [List.mem_cons]; exact .inr e⟩
      · have : i = l.length := by omega
        subst this
        rw [br_f (i_ge _)]
        exact .inl ⟨⟨_, rfl⟩, by simp⟩
  rcases key k 0 (by omega) (by omega) with ⟨⟨z, e⟩, e2⟩ | ⟨⟨j, e⟩, e2⟩
  · rw [show ((0 : Nat) : Int) = 0 from rfl] at e
    rw [e]
    simp only [List.drop_zero] at e2
    simp [e2]
  · rw [show ((0 : Nat) : Int) = 0 from rfl] at e
    rw [e]
    simp only [List.drop_zero] at e2
    simp [e2]

def allIds (o : TOp) : List TId := [o.2.2.2.1, o.2.2.2.2.1, o.2.2.2.2.2.2.1, o.2.2.2.2.2.2.2.1.1, o.2.2.2.2.2.2.2.2.1.1] ++ o.2.2.2.2.2.2.2.2.2.2.1.map (·.1)

def addId (out : List TId) (i : TId) : List TId := if i.2.1 ≠ 0 ∧ i ∉ out then out ++ [i] else out

def needs (o : TOp) : List TId := (allIds o).foldl addId []

theorem addId_len (out : List TId) (i : TId) : (addId out i).length ≤ out.length + 1 := by unfold addId; split <;> simp

theorem F_opNeeds_eq (k : Nat) (o : TOp) (h : o.2.2.2.2.2.2.2.2.2.2.1.length ≤ 40) : F_opNeeds (k + 60) o = some ((needs o, ()), ()) := by
  rw [F_opNeeds_step]
  generalize hc : o.2.2.2.2.2.2.2.2.2.2.1 = cu at *
  have k0 := for_run0 (L := fun m i (s : List TId) => L_opNeeds_0 (k + 59) cu (cu.length : Int) m (s, (i, ()))) (l := cu) (R := LO (List TId × Unit) (List TId × (Int × Unit)) Unit)
    (fun s x => .inl (s ++ [x.1])) (fun s => .brk (s, ((cu.length : Int), ()))) (fun i s => s.length ≤ 5 + i)
    (fun m i s hi hI => by
      constructor
      · show L_opNeeds_0 (k + 59) cu (cu.length : Int) (m + 1) (s, ((i : Int), ())) = _
        rw [L_opNeeds_0_step, br_t (i_lt hi), br_t (i_in hi), getD_of hi, i_nx (by omega), br_t (by simp; omega)]
      · intro s' e
        simp only [Sum.inl.injEq] at e
        subst e
        simp; omega)
    (fun m s hI => by
      show L_opNeeds_0 (k + 59) cu (cu.length : Int) (m + 1) (s, ((cu.length : Int), ())) = _
      rw [L_opNeeds_0_step, br_f (i_ge _)])
    (k + 59) [o.2.2.2.1, o.2.2.2.2.1, o.2.2.2.2.2.2.1, o.2.2.2.2.2.2.2.1.1, o.2.2.2.2.2.2.2.2.1.1] (by omega) (by simp)
  rw [k0, runL_fold]
  simp only [bdL_b]
  have hfold : ∀ (l : List TCut) (s : List TId), l.foldl (fun s x => s ++ [x.1]) s = s ++ l.map (·.1) := by
    intro l
    induction l with
    | nil => intro s; simp
    | cons x l ih => intro s; simp [ih, List.append_assoc]
  rw [hfold]
  have hall : [o.2.2.2.1, o.2.2.2.2.1, o.2.2.2.2.2.2.1, o.2.2.2.2.2.2.2.1.1, o.2.2.2.2.2.2.2.2.1.1] ++ cu.map (·.1) = allIds o := by unfold allIds; rw [hc]
  rw [hall]
  have hlen : (allIds o).length ≤ 45 := by unfold allIds; rw [hc]; simp; omega
  unfold needs
  generalize allIds o = all at *
  have k2 := for_run0 (L := fun m i (s : List TId) => L_opNeeds_2 (k + 59) all (all.length : Int) m (s, (i, ()))) (l := all) (R := LO (List TId × Unit) (List TId × (Int × Unit)) Unit)
    (fun s x => .inl (addId s x)) (fun s => .brk (s, ((all.length : Int), ()))) (fun i s => s.length ≤ i)
    (fun m i s hi hI => by
      constructor
      · show L_opNeeds_2 (k + 59) all (all.length : Int) (m + 1) (s, ((i : Int), ())) = _
        rw [L_opNeeds_2_step, br_t (i_lt hi), br_t (i_in hi), getD_of hi, i_nx (by omega), F_slicesContainsapiId_eq _ _ _ ⟨by omega, by omega⟩]
        simp only [bd_s, addId]
        by_cases h0 : all[i].2.1 = 0
        · rw [br_f (by simp [h0]), if_neg (by simp [h0])]
        · rw [br_t (by simp [h0])]
          by_cases hm : all[i] ∈ s
          · rw [br_f (by simp [hm]), if_neg (by simp [hm])]
          · rw [br_t (by simp [hm]), br_t (by simp; omega), if_pos ⟨h0, hm⟩]
      · intro s' e
        simp only [Sum.inl.injEq] at e
        subst e
        have := addId_len s all[i]
        omega)
    (fun m s hI => by
      show L_opNeeds_2 (k + 59) all (all.length : Int) (m + 1) (s, ((all.length : Int), ())) = _
      rw [L_opNeeds_2_step, br_f (i_ge _)])
    (k + 59) [] (by omega) (by simp)
  rw [k2, runL_fold]
  rfl

/-- the op of the laws' first line -/
def foldOp : TOp := (6, ((1, (2, ())), (3, ((0, (1, ())), ((0, (0, ())), ([], ((0, (0, ())), (((0, (0, ())), (0, ())), (((0, (0, ())), (0, ())), ([], ([], (true, ()))))))))))))

theorem F_law05fold_eq (k : Nat) : F_law05fold (k + 1) = some ((foldOp, ()), ()) := F_law05fold_step k

theorem fold_right : right foldOp = true := by kernel_rfl

theorem fold_enc : enc foldOp = [6, 1, 2, 3, 0, 1, 1] := by kernel_rfl

theorem fold_needs : needs foldOp = [(0, 1, ())] := by kernel_rfl

theorem zero_right : right zOp = false := by kernel_rfl

end Go.Proofs.YtkfikongenapfaaDoor.E

namespace Go.Proofs.YtkfikongenapfaaDoor.E
open Go
set_option linter.unusedVariables false
set_option maxRecDepth 100000
noncomputable def F_ref05Right (k : Nat) (a0 : TOp) : Option (((Bool) × (Unit)) × (Unit)) := fnE E0 k 74 (a0, ())

noncomputable def F_ref05Encode (k : Nat) (a0 : TOp) : Option ((Cur) × (Unit)) := fnE E0 k 79 (a0, ())

noncomputable def F_ref05EncodeAll (k : Nat) (a0 : List (TOp)) : Option ((Cur) × (Unit)) := fnE E0 k 41 (a0, ())

noncomputable def L_ref05Right_0 (k : Nat) (s0 : TOp) (s1 : Bool) (s2 : Bool) (s3 : Int) : Nat → (Bool) × (Unit) → Option (LO ((Bool) × (Unit)) ((Bool) × (Unit)) (Unit)) :=
  loopF false 0 133 75000000 74 cut75000000_74_0 (s0, s1, s2, s3, ()) (fun σ K => bodyAt E0 (fnE E0 k) (inl5 E0 (fnE E0 k) k) 74 (rvOf 74) k (codeOf 74 0) _ σ K)

noncomputable def L_ref05Right_1 (k : Nat) (s0 : TOp) : Nat → (Bool) × ((Int) × (Unit)) → Option (LO ((Bool) × (Unit)) ((Bool) × ((Int) × (Unit))) (Unit)) :=
  loopF true 1 133 75000000 74 cut75000000_74_1 (s0, ()) (fun σ K => bodyAt E0 (fnE E0 k) (inl5 E0 (fnE E0 k) k) 74 (rvOf 74) k (codeOf 74 1) _ σ K)

theorem L_ref05Right_0_step (k m : Nat) (s0 : TOp) (s1 : Bool) (s2 : Bool) (s3 : Int) (x0 : Bool) : L_ref05Right_0 k s0 s1 s2 s3 (m + 1) (x0, ()) =
  (br (s3 == (1 : Int))
   (some (.ret (s1, ()) ()))
   (br (s3 == (2 : Int))
    (br s1
     (bd (F_ref03RightOp k s0.2.2.2.1) (fun (r : ((Bool) × (Unit)) × (Unit)) => (some (.ret (r.1.1, ()) ()))))
     (some (.ret (false, ()) ())))
    (br (s3 == (3 : Int))
     (some (.ret ((cond (cond s2 (decide ((((List.length s0.2.2.2.2.2.2.2.2.2.1) : Nat) : Int) ≥ (1 : Int))) false) (decide ((((List.length s0.2.2.2.2.2.2.2.2.2.1) : Nat) : Int) ≤ (64 : Int))) false), ()) ()))
     (br (s3 == (5 : Int))
      (some (.ret ((cond s2 s1 false), ()) ()))
      (br (s3 == (6 : Int))
       (bd (F_ref03RightOp k s0.2.2.2.1) (fun (r : ((Bool) × (Unit)) × (Unit)) => (some (.ret (r.1.1, ()) ()))))
       (br (s3 == (4 : Int))
        (bdL (L_ref05Right_1 k s0 k (x0, ((0 : Int), ())))
         (fun (b : (Bool) × ((Int) × (Unit))) => (some (.ret ((cond (decide ((((List.length s0.2.2.2.2.2.2.2.2.2.2.1) : Nat) : Int) ≥ (1 : Int))) (decide ((((List.length s0.2.2.2.2.2.2.2.2.2.2.1) : Nat) : Int) ≤ (16 : Int))) false), ()) ())))
         (fun (j : Nat) => (fun (b : (Bool) × ((Int) × (Unit))) => (br (Nat.beq j (0 : Nat))
          (some (.brk (b.1, ())))
          (some (.ext j (b.1, ()))))))
         (fun (q : (Bool) × (Unit)) => (fun (b : Unit) => (some (.ret q ())))))
        (some (.brk (x0, ()))))))))) := by kernel_rfl

theorem L_ref05Right_1_step (k m : Nat) (s0 : TOp) (x0 : Bool) (x1 : Int) : L_ref05Right_1 k s0 (m + 1) (x0, x1, ()) =
  (br (decide (x1 < (((List.length s0.2.2.2.2.2.2.2.2.2.2.1) : Nat) : Int)))
   (br (inB x1 (List.length s0.2.2.2.2.2.2.2.2.2.2.1))
    (bd (F_ref03RightOp k (List.getD s0.2.2.2.2.2.2.2.2.2.2.1 (Int.toNat x1) (((0 : Int), ((0 : Int), ())), ((0 : Int), ((0 : Int), ())))).1) (fun (r : ((Bool) × (Unit)) × (Unit)) => (br (cond (cond (cond (!r.1.1) true (decide ((List.getD s0.2.2.2.2.2.2.2.2.2.2.1 (Int.toNat x1) (((0 : Int), ((0 : Int), ())), ((0 : Int), ((0 : Int), ())))).2.1 < (0 : Int)))) true (decide ((List.getD s0.2.2.2.2.2.2.2.2.2.2.1 (Int.toNat x1) (((0 : Int), ((0 : Int), ())), ((0 : Int), ((0 : Int), ())))).2.1 ≥ (List.getD s0.2.2.2.2.2.2.2.2.2.2.1 (Int.toNat x1) (((0 : Int), ((0 : Int), ())), ((0 : Int), ((0 : Int), ())))).2.2.1))) true (decide ((List.getD s0.2.2.2.2.2.2.2.2.2.2.1 (Int.toNat x1) (((0 : Int), ((0 : Int), ())), ((0 : Int), ((0 : Int), ())))).2.2.1 > (64 : Int))))
      (some (.ret (false, ()) ()))
      (L_ref05Right_1 k s0 m (x0, ((IntKind.wrap (IntKind.i64) (x1 + (1 : Int))), ()))))))
    none)
   (some (.brk (x0, (x1, ()))))) := by kernel_rfl

theorem F_ref05Right_step (k : Nat) (a0 : TOp) : F_ref05Right (k + 1) a0 =
  (bd (F_ref03RightOp k a0.2.1) (fun (r : ((Bool) × (Unit)) × (Unit)) => (br (boolEq (!r.1.1) false)
    (br (boolEq (cond false true (decide (a0.2.2.1 < (1 : Int)))) false)
     (br (boolEq (cond false true (decide (a0.2.2.1 > (1099511627776 : Int)))) false)
       (bd (F_ref05kept k a0) (fun (r1 : ((TOp) × (Unit)) × (Unit)) => (bd (F_ref00SameOp k r1.1.1 a0) (fun (r2 : ((Bool) × (Unit)) × (Unit)) => (br (cond false true (!r2.1.1))
           (some ((false, ()), ()))
           (bd (F_ref03RightBlock k a0.2.2.2.2.1) (fun (r3 : ((Bool) × (Unit)) × (Unit)) => (br r3.1.1
             (bd (F_ref04Right k a0.2.2.2.2.2.1) (fun (r4 : ((Bool) × (Unit)) × (Unit)) => (bd (F_ref03RightOp k a0.2.2.2.2.2.2.1) (fun (r5 : ((Bool) × (Unit)) × (Unit)) => (br r5.1.1
                (bd (F_ref03RightChar k a0.2.2.2.2.2.2.2.1) (fun (r6 : ((Bool) × (Unit)) × (Unit)) => (br (cond true r6.1.1 false)
                  (bd (F_ref03RightChar k a0.2.2.2.2.2.2.2.2.1) (fun (r7 : ((Bool) × (Unit)) × (Unit)) => (bdL (L_ref05Right_0 k a0 r4.1.1 r7.1.1 a0.1 (1 : Nat) (false, ()))
                    (fun (b : (Bool) × (Unit)) => (some ((false, ()), ())))
                    (fun (j : Nat) => (fun (b : (Bool) × (Unit)) => none))
                    (fun (q : (Bool) × (Unit)) => (fun (b : Unit) => (some (q, ())))))))
                  (bdL (L_ref05Right_0 k a0 r4.1.1 false a0.1 (1 : Nat) (false, ()))
                   (fun (b : (Bool) × (Unit)) => (some ((false, ()), ())))
                   (fun (j : Nat) => (fun (b : (Bool) × (Unit)) => none))
                   (fun (q : (Bool) × (Unit)) => (fun (b : Unit) => (some (q, ()))))))))
                (bdL (L_ref05Right_0 k a0 r4.1.1 false a0.1 (1 : Nat) (false, ()))
                 (fun (b : (Bool) × (Unit)) => (some ((false, ()), ())))
                 (fun (j : Nat) => (fun (b : (Bool) × (Unit)) => none))
                 (fun (q : (Bool) × (Unit)) => (fun (b : Unit) => (some (q, ()))))))))))
             (bd (F_ref03RightOp k a0.2.2.2.2.2.2.1) (fun (r4 : ((Bool) × (Unit)) × (Unit)) => (br r4.1.1
               (bd (F_ref03RightChar k a0.2.2.2.2.2.2.2.1) (fun (r5 : ((Bool) × (Unit)) × (Unit)) => (br (cond true r5.1.1 false)
                 (bd (F_ref03RightChar k a0.2.2.2.2.2.2.2.2.1) (fun (r6 : ((Bool) × (Unit)) × (Unit)) => (bdL (L_ref05Right_0 k a0 false r6.1.1 a0.1 (1 : Nat) (false, ()))
                   (fun (b : (Bool) × (Unit)) => (some ((false, ()), ())))
                   (fun (j : Nat) => (fun (b : (Bool) × (Unit)) => none))
                   (fun (q : (Bool) × (Unit)) => (fun (b : Unit) => (some (q, ())))))))
                 (bdL (L_ref05Right_0 k a0 false false a0.1 (1 : Nat) (false, ()))
                  (fun (b : (Bool) × (Unit)) => (some ((false, ()), ())))
                  (fun (j : Nat) => (fun (b : (Bool) × (Unit)) => none))
                  (fun (q : (Bool) × (Unit)) => (fun (b : Unit) => (some (q, ()))))))))
               (bdL (L_ref05Right_0 k a0 false false a0.1 (1 : Nat) (false, ()))
                (fun (b : (Bool) × (Unit)) => (some ((false, ()), ())))
                (fun (j : Nat) => (fun (b : (Bool) × (Unit)) => none))
                (fun (q : (Bool) × (Unit)) => (fun (b : Unit) => (some (q, ()))))))))))))))))
       (some ((false, ()), ())))
     (some ((false, ()), ())))
    (some ((false, ()), ()))))) :=
 (show F_ref05Right (k + 1) a0 =
  (bd (F_ref03RightOp k a0.2.1) (fun (r : ((Bool) × (Unit)) × (Unit)) => (br (boolEq (!r.1.1) false)
    (br (boolEq (cond false true (decide (a0.2.2.1 < (1 : Int)))) false)
     (both
      (br (boolEq (cond false true (decide (a0.2.2.1 > (1099511627776 : Int)))) false)
       (both
        (bd (F_ref05kept k a0) (fun (r1 : ((TOp) × (Unit)) × (Unit)) => (bd (F_ref00SameOp k r1.1.1 a0) (fun (r2 : ((Bool) × (Unit)) × (Unit)) => (br (cond false true (!r2.1.1))
           (some ((false, ()), ()))
           (bd (F_ref03RightBlock k a0.2.2.2.2.1) (fun (r3 : ((Bool) × (Unit)) × (Unit)) => (br r3.1.1
             (bd (F_ref04Right k a0.2.2.2.2.2.1) (fun (r4 : ((Bool) × (Unit)) × (Unit)) => (bd (F_ref03RightOp k a0.2.2.2.2.2.2.1) (fun (r5 : ((Bool) × (Unit)) × (Unit)) => (br r5.1.1
                (bd (F_ref03RightChar k a0.2.2.2.2.2.2.2.1) (fun (r6 : ((Bool) × (Unit)) × (Unit)) => (br (cond true r6.1.1 false)
                  (bd (F_ref03RightChar k a0.2.2.2.2.2.2.2.2.1) (fun (r7 : ((Bool) × (Unit)) × (Unit)) => (bdL (L_ref05Right_0 k a0 r4.1.1 r7.1.1 a0.1 (1 : Nat) (false, ()))
                    (fun (b : (Bool) × (Unit)) => (some ((false, ()), ())))
                    (fun (j : Nat) => (fun (b : (Bool) × (Unit)) => none))
                    (fun (q : (Bool) × (Unit)) => (fun (b : Unit) => (some (q, ())))))))
                  (bdL (L_ref05Right_0 k a0 r4.1.1 false a0.1 (1 : Nat) (false, ()))
                   (fun (b : (Bool) × (Unit)) => (some ((false, ()), ())))
                   (fun (j : Nat) => (fun (b : (Bool) × (Unit)) => none))
                   (fun (q : (Bool) × (Unit)) => (fun (b : Unit) => (some (q, ()))))))))
                (bdL (L_ref05Right_0 k a0 r4.1.1 false a0.1 (1 : Nat) (false, ()))
                 (fun (b : (Bool) × (Unit)) => (some ((false, ()), ())))
                 (fun (j : Nat) => (fun (b : (Bool) × (Unit)) => none))
                 (fun (q : (Bool) × (Unit)) => (fun (b : Unit) => (some (q, ()))))))))))
             (bd (F_ref03RightOp k a0.2.2.2.2.2.2.1) (fun (r4 : ((Bool) × (Unit)) × (Unit)) => (br r4.1.1
               (bd (F_ref03RightChar k a0.2.2.2.2.2.2.2.1) (fun (r5 : ((Bool) × (Unit)) × (Unit)) => (br (cond true r5.1.1 false)
                 (bd (F_ref03RightChar k a0.2.2.2.2.2.2.2.2.1) (fun (r6 : ((Bool) × (Unit)) × (Unit)) => (bdL (L_ref05Right_0 k a0 false r6.1.1 a0.1 (1 : Nat) (false, ()))
                   (fun (b : (Bool) × (Unit)) => (some ((false, ()), ())))
                   (fun (j : Nat) => (fun (b : (Bool) × (Unit)) => none))
                   (fun (q : (Bool) × (Unit)) => (fun (b : Unit) => (some (q, ())))))))
                 (bdL (L_ref05Right_0 k a0 false false a0.1 (1 : Nat) (false, ()))
                  (fun (b : (Bool) × (Unit)) => (some ((false, ()), ())))
                  (fun (j : Nat) => (fun (b : (Bool) × (Unit)) => none))
                  (fun (q : (Bool) × (Unit)) => (fun (b : Unit) => (some (q, ()))))))))
               (bdL (L_ref05Right_0 k a0 false false a0.1 (1 : Nat) (false, ()))
                (fun (b : (Bool) × (Unit)) => (some ((false, ()), ())))
                (fun (j : Nat) => (fun (b : (Bool) × (Unit)) => none))
                (fun (q : (Bool) × (Unit)) => (fun (b : Unit) => (some (q, ()))))))))))))))))
        (bd (F_ref05kept k a0) (fun (r1 : ((TOp) × (Unit)) × (Unit)) => (bd (F_ref00SameOp k r1.1.1 a0) (fun (r2 : ((Bool) × (Unit)) × (Unit)) => (br (cond false true (!r2.1.1))
           (some ((false, ()), ()))
           (bd (F_ref03RightBlock k a0.2.2.2.2.1) (fun (r3 : ((Bool) × (Unit)) × (Unit)) => (br r3.1.1
             (bd (F_ref04Right k a0.2.2.2.2.2.1) (fun (r4 : ((Bool) × (Unit)) × (Unit)) => (bd (F_ref03RightOp k a0.2.2.2.2.2.2.1) (fun (r5 : ((Bool) × (Unit)) × (Unit)) => (br r5.1.1
                (bd (F_ref03RightChar k a0.2.2.2.2.2.2.2.1) (fun (r6 : ((Bool) × (Unit)) × (Unit)) => (br (cond true r6.1.1 false)
                  (bd (F_ref03RightChar k a0.2.2.2.2.2.2.2.2.1) (fun (r7 : ((Bool) × (Unit)) × (Unit)) => (bdL (L_ref05Right_0 k a0 r4.1.1 r7.1.1 a0.1 (1 : Nat) (false, ()))
                    (fun (b : (Bool) × (Unit)) => (some ((false, ()), ())))
                    (fun (j : Nat) => (fun (b : (Bool) × (Unit)) => none))
                    (fun (q : (Bool) × (Unit)) => (fun (b : Unit) => (some (q, ())))))))
                  (bdL (L_ref05Right_0 k a0 r4.1.1 false a0.1 (1 : Nat) (false, ()))
                   (fun (b : (Bool) × (Unit)) => (some ((false, ()), ())))
                   (fun (j : Nat) => (fun (b : (Bool) × (Unit)) => none))
                   (fun (q : (Bool) × (Unit)) => (fun (b : Unit) => (some (q, ()))))))))
                (bdL (L_ref05Right_0 k a0 r4.1.1 false a0.1 (1 : Nat) (false, ()))
                 (fun (b : (Bool) × (Unit)) => (some ((false, ()), ())))
                 (fun (j : Nat) => (fun (b : (Bool) × (Unit)) => none))
                 (fun (q : (Bool) × (Unit)) => (fun (b : Unit) => (some (q, ()))))))))))
             (bd (F_ref03RightOp k a0.2.2.2.2.2.2.1) (fun (r4 : ((Bool) × (Unit)) × (Unit)) => (br r4.1.1
               (bd (F_ref03RightChar k a0.2.2.2.2.2.2.2.1) (fun (r5 : ((Bool) × (Unit)) × (Unit)) => (br (cond true r5.1.1 false)
                 (bd (F_ref03RightChar k a0.2.2.2.2.2.2.2.2.1) (fun (r6 : ((Bool) × (Unit)) × (Unit)) => (bdL (L_ref05Right_0 k a0 false r6.1.1 a0.1 (1 : Nat) (false, ()))
                   (fun (b : (Bool) × (Unit)) => (some ((false, ()), ())))
                   (fun (j : Nat) => (fun (b : (Bool) × (Unit)) => none))
                   (fun (q : (Bool) × (Unit)) => (fun (b : Unit) => (some (q, ())))))))
                 (bdL (L_ref05Right_0 k a0 false false a0.1 (1 : Nat) (false, ()))
                  (fun (b : (Bool) × (Unit)) => (some ((false, ()), ())))
                  (fun (j : Nat) => (fun (b : (Bool) × (Unit)) => none))
                  (fun (q : (Bool) × (Unit)) => (fun (b : Unit) => (some (q, ()))))))))
               (bdL (L_ref05Right_0 k a0 false false a0.1 (1 : Nat) (false, ()))
                (fun (b : (Bool) × (Unit)) => (some ((false, ()), ())))
                (fun (j : Nat) => (fun (b : (Bool) × (Unit)) => none))
                (fun (q : (Bool) × (Unit)) => (fun (b : Unit) => (some (q, ())))))))))))))))))
       (both
        (some ((false, ()), ()))
        (some ((false, ()), ()))))
      (br (boolEq (cond false true (decide (a0.2.2.1 > (1099511627776 : Int)))) false)
       (bd (F_ref05kept k a0) (fun (r1 : ((TOp) × (Unit)) × (Unit)) => (bd (F_ref00SameOp k r1.1.1 a0) (fun (r2 : ((Bool) × (Unit)) × (Unit)) => (br (cond false true (!r2.1.1))
          (some ((false, ()), ()))
          (bd (F_ref03RightBlock k a0.2.2.2.2.1) (fun (r3 : ((Bool) × (Unit)) × (Unit)) => (br r3.1.1
            (bd (F_ref04Right k a0.2.2.2.2.2.1) (fun (r4 : ((Bool) × (Unit)) × (Unit)) => (bd (F_ref03RightOp k a0.2.2.2.2.2.2.1) (fun (r5 : ((Bool) × (Unit)) × (Unit)) => (br r5.1.1
               (bd (F_ref03RightChar k a0.2.2.2.2.2.2.2.1) (fun (r6 : ((Bool) × (Unit)) × (Unit)) => (br (cond true r6.1.1 false)
                 (bd (F_ref03RightChar k a0.2.2.2.2.2.2.2.2.1) (fun (r7 : ((Bool) × (Unit)) × (Unit)) => (bdL (L_ref05Right_0 k a0 r4.1.1 r7.1.1 a0.1 (1 : Nat) (false, ()))
                   (fun (b : (Bool) × (Unit)) => (some ((false, ()), ())))
                   (fun (j : Nat) => (fun (b : (Bool) × (Unit)) => none))
                   (fun (q : (Bool) × (Unit)) => (fun (b : Unit) => (some (q, ())))))))
                 (bdL (L_ref05Right_0 k a0 r4.1.1 false a0.1 (1 : Nat) (false, ()))
                  (fun (b : (Bool) × (Unit)) => (some ((false, ()), ())))
                  (fun (j : Nat) => (fun (b : (Bool) × (Unit)) => none))
                  (fun (q : (Bool) × (Unit)) => (fun (b : Unit) => (some (q, ()))))))))
               (bdL (L_ref05Right_0 k a0 r4.1.1 false a0.1 (1 : Nat) (false, ()))
                (fun (b : (Bool) × (Unit)) => (some ((false, ()), ())))
                (fun (j : Nat) => (fun (b : (Bool) × (Unit)) => none))
                (fun (q : (Bool) × (Unit)) => (fun (b : Unit) => (some (q, ()))))))))))
            (bd (F_ref03RightOp k a0.2.2.2.2.2.2.1) (fun (r4 : ((Bool) × (Unit)) × (Unit)) => (br r4.1.1
              (bd (F_ref03RightChar k a0.2.2.2.2.2.2.2.1) (fun (r5 : ((Bool) × (Unit)) × (Unit)) => (br (cond true r5.1.1 false)
                (bd (F_ref03RightChar k a0.2.2.2.2.2.2.2.2.1) (fun (r6 : ((Bool) × (Unit)) × (Unit)) => (bdL (L_ref05Right_0 k a0 false r6.1.1 a0.1 (1 : Nat) (false, ()))
                  (fun (b : (Bool) × (Unit)) => (some ((false, ()), ())))
                  (fun (j : Nat) => (fun (b : (Bool) × (Unit)) => none))
                  (fun (q : (Bool) × (Unit)) => (fun (b : Unit) => (some (q, ())))))))
                (bdL (L_ref05Right_0 k a0 false false a0.1 (1 : Nat) (false, ()))
                 (fun (b : (Bool) × (Unit)) => (some ((false, ()), ())))
                 (fun (j : Nat) => (fun (b : (Bool) × (Unit)) => none))
                 (fun (q : (Bool) × (Unit)) => (fun (b : Unit) => (some (q, ()))))))))
              (bdL (L_ref05Right_0 k a0 false false a0.1 (1 : Nat) (false, ()))
               (fun (b : (Bool) × (Unit)) => (some ((false, ()), ())))
               (fun (j : Nat) => (fun (b : (Bool) × (Unit)) => none))
               (fun (q : (Bool) × (Unit)) => (fun (b : Unit) => (some (q, ()))))))))))))))))
       (some ((false, ()), ()))))
     (both
      (both
       (some ((false, ()), ()))
       (some ((false, ()), ())))
      (some ((false, ()), ()))))
    (both
     (both
      (some ((false, ()), ()))
      (some ((false, ()), ())))
     (some ((false, ()), ())))))) by kernel_rfl).trans (by simp only [both_self])

noncomputable def L_ref05Encode_0 (k : Nat) (s0 : TOp) : Nat → (List (Int)) × ((Int) × (Unit)) → Option (LO (Cur) ((List (Int)) × ((Int) × (Unit))) (Unit)) :=
  loopF true 0 142 80000000 79 cut80000000_79_0 (s0, ()) (fun σ K => bodyAt E0 (fnE E0 k) (inl5 E0 (fnE E0 k) k) 79 (rvOf 79) k (codeOf 79 0) _ σ K)

noncomputable def L_ref05Encode_1006 (k : Nat) (s0 : TOp) (s1 : Bool) : Nat → (List (Int)) × (Unit) → Option (LO (Cur) ((List (Int)) × (Unit)) (Unit)) :=
  loopF false 1006 142 80000000 79 cut80000000_79_1006 (s0, s1, ()) (fun σ K => bodyAt E0 (fnE E0 k) (inl5 E0 (fnE E0 k) k) 79 (rvOf 79) k (codeOf 79 1006) _ σ K)

noncomputable def L_ref05Encode_1008 (k : Nat) (s0 : TOp) (s1 : Bool) : Nat → (List (Int)) × (Unit) → Option (LO (Cur) ((List (Int)) × (Unit)) (Unit)) :=
  loopF false 1008 142 80000000 79 cut80000000_79_1008 (s0, s1, ()) (fun σ K => bodyAt E0 (fnE E0 k) (inl5 E0 (fnE E0 k) k) 79 (rvOf 79) k (codeOf 79 1008) _ σ K)

noncomputable def L_ref05Encode_1012 (k : Nat) (s0 : TOp) (s1 : Bool) : Nat → (List (Int)) × (Unit) → Option (LO (Cur) ((List (Int)) × (Unit)) (Unit)) :=
  loopF false 1012 142 80000000 79 cut80000000_79_1012 (s0, s1, ()) (fun σ K => bodyAt E0 (fnE E0 k) (inl5 E0 (fnE E0 k) k) 79 (rvOf 79) k (codeOf 79 1012) _ σ K)

noncomputable def L_ref05Encode_1015 (k : Nat) (s0 : TOp) (s1 : Bool) : Nat → (List (Int)) × (Unit) → Option (LO (Cur) ((List (Int)) × (Unit)) (Unit)) :=
  loopF false 1015 142 80000000 79 cut80000000_79_1015 (s0, s1, ()) (fun σ K => bodyAt E0 (fnE E0 k) (inl5 E0 (fnE E0 k) k) 79 (rvOf 79) k (codeOf 79 1015) _ σ K)

noncomputable def L_ref05Encode_1017 (k : Nat) (s0 : TOp) (s1 : Bool) : Nat → (List (Int)) × (Unit) → Option (LO (Cur) ((List (Int)) × (Unit)) (Unit)) :=
  loopF false 1017 142 80000000 79 cut80000000_79_1017 (s0, s1, ()) (fun σ K => bodyAt E0 (fnE E0 k) (inl5 E0 (fnE E0 k) k) 79 (rvOf 79) k (codeOf 79 1017) _ σ K)

noncomputable def L_ref05Encode_1025 (k : Nat) (s0 : TOp) (s1 : Bool) : Nat → (List (Int)) × (Unit) → Option (LO (Cur) ((List (Int)) × (Unit)) (Unit)) :=
  loopF false 1025 142 80000000 79 cut80000000_79_1025 (s0, s1, ()) (fun σ K => bodyAt E0 (fnE E0 k) (inl5 E0 (fnE E0 k) k) 79 (rvOf 79) k (codeOf 79 1025) _ σ K)

noncomputable def L_ref05Encode_1027 (k : Nat) (s0 : Bool) : Nat → (Int) × (Unit) → Option (LO (Cur) ((Int) × (Unit)) (Unit)) :=
  loopF false 1027 142 80000000 79 cut80000000_79_1027 (s0, ()) (fun σ K => bodyAt E0 (fnE E0 k) (inl5 E0 (fnE E0 k) k) 79 (rvOf 79) k (codeOf 79 1027) _ σ K)

theorem L_ref05Encode_0_step (k m : Nat) (s0 : TOp) (x0 : List (Int)) (x1 : Int) : L_ref05Encode_0 k s0 (m + 1) (x0, x1, ()) =
  (br (decide (x1 < (((List.length s0.2.2.2.2.2.2.2.2.2.2.1) : Nat) : Int)))
   (br (inB x1 (List.length s0.2.2.2.2.2.2.2.2.2.2.1))
    (bd (F_ref05name k (List.getD s0.2.2.2.2.2.2.2.2.2.2.1 (Int.toNat x1) (((0 : Int), ((0 : Int), ())), ((0 : Int), ((0 : Int), ())))).1) (fun (r : ((List (Int)) × (Unit)) × (Unit)) => (br (decide ((((List.length x0) + (List.length r.1.1)) * (1 : Nat)) ≤ (140737488355328 : Nat)))
      (br (inB x1 (List.length s0.2.2.2.2.2.2.2.2.2.2.1))
       (bd (F_ref05num k (List.getD s0.2.2.2.2.2.2.2.2.2.2.1 (Int.toNat x1) (((0 : Int), ((0 : Int), ())), ((0 : Int), ((0 : Int), ())))).2.1) (fun (r1 : ((List (Int)) × (Unit)) × (Unit)) => (br (decide ((((List.length (x0 ++ r.1.1)) + (List.length r1.1.1)) * (1 : Nat)) ≤ (140737488355328 : Nat)))
         (br (inB x1 (List.length s0.2.2.2.2.2.2.2.2.2.2.1))
          (bd (F_ref05num k (List.getD s0.2.2.2.2.2.2.2.2.2.2.1 (Int.toNat x1) (((0 : Int), ((0 : Int), ())), ((0 : Int), ((0 : Int), ())))).2.2.1) (fun (r2 : ((List (Int)) × (Unit)) × (Unit)) => (br (decide ((((List.length ((x0 ++ r.1.1) ++ r1.1.1)) + (List.length r2.1.1)) * (1 : Nat)) ≤ (140737488355328 : Nat)))
            (L_ref05Encode_0 k s0 m ((((x0 ++ r.1.1) ++ r1.1.1) ++ r2.1.1), ((IntKind.wrap (IntKind.i64) (x1 + (1 : Int))), ())))
            none)))
          none)
         none)))
       none)
      none)))
    none)
   (some (.brk (x0, (x1, ()))))) := by kernel_rfl

theorem L_ref05Encode_1006_step (k m : Nat) (s0 : TOp) (s1 : Bool) (x0 : List (Int)) : L_ref05Encode_1006 k s0 s1 (m + 1) (x0, ()) =
  (br s1
   (bd (F_ref05name k s0.2.2.2.1) (fun (r : ((List (Int)) × (Unit)) × (Unit)) => (br (decide ((((List.length x0) + (List.length r.1.1)) * (1 : Nat)) ≤ (140737488355328 : Nat)))
     (some (.brk ((x0 ++ r.1.1), ())))
     none)))
   (some (.brk (x0, ())))) := by kernel_rfl

theorem L_ref05Encode_1008_step (k m : Nat) (s0 : TOp) (s1 : Bool) (x0 : List (Int)) : L_ref05Encode_1008 k s0 s1 (m + 1) (x0, ()) =
  (br s1
   (bd (F_ref05name k s0.2.2.2.2.2.2.1) (fun (r : ((List (Int)) × (Unit)) × (Unit)) => (br (decide ((((List.length x0) + (List.length r.1.1)) * (1 : Nat)) ≤ (140737488355328 : Nat)))
     (bd (F_ref05char k s0.2.2.2.2.2.2.2.1) (fun (r1 : ((List (Int)) × (Unit)) × (Unit)) => (br (decide ((((List.length (x0 ++ r.1.1)) + (List.length r1.1.1)) * (1 : Nat)) ≤ (140737488355328 : Nat)))
       (bd (F_ref05char k s0.2.2.2.2.2.2.2.2.1) (fun (r2 : ((List (Int)) × (Unit)) × (Unit)) => (br (decide ((((List.length ((x0 ++ r.1.1) ++ r1.1.1)) + (List.length r2.1.1)) * (1 : Nat)) ≤ (140737488355328 : Nat)))
         (some (.brk ((((x0 ++ r.1.1) ++ r1.1.1) ++ r2.1.1), ())))
         none)))
       none)))
     none)))
   (some (.brk (x0, ())))) := by kernel_rfl

theorem L_ref05Encode_1012_step (k m : Nat) (s0 : TOp) (s1 : Bool) (x0 : List (Int)) : L_ref05Encode_1012 k s0 s1 (m + 1) (x0, ()) =
  (br s1
   (bd (F_ref05name k s0.2.2.2.2.1) (fun (r : ((List (Int)) × (Unit)) × (Unit)) => (br (decide ((((List.length x0) + (List.length r.1.1)) * (1 : Nat)) ≤ (140737488355328 : Nat)))
     (bd (F_ref01PutText k s0.2.2.2.2.2.1) (fun (r1 : ((List (Int)) × (Unit)) × (Unit)) => (br (decide ((((List.length (x0 ++ r.1.1)) + (List.length r1.1.1)) * (1 : Nat)) ≤ (140737488355328 : Nat)))
       (some (.brk (((x0 ++ r.1.1) ++ r1.1.1), ())))
       none)))
     none)))
   (some (.brk (x0, ())))) := by kernel_rfl

theorem L_ref05Encode_1015_step (k m : Nat) (s0 : TOp) (s1 : Bool) (x0 : List (Int)) : L_ref05Encode_1015 k s0 s1 (m + 1) (x0, ()) =
  (br s1
   (bd (F_ref01PutText k s0.2.2.2.2.2.2.2.2.2.1) (fun (r : ((List (Int)) × (Unit)) × (Unit)) => (br (decide ((((List.length x0) + (List.length r.1.1)) * (1 : Nat)) ≤ (140737488355328 : Nat)))
     (some (.brk ((x0 ++ r.1.1), ())))
     none)))
   (some (.brk (x0, ())))) := by kernel_rfl

theorem L_ref05Encode_1017_step (k m : Nat) (s0 : TOp) (s1 : Bool) (x0 : List (Int)) : L_ref05Encode_1017 k s0 s1 (m + 1) (x0, ()) =
  (br s1
   (bd (F_ref05num k (((List.length s0.2.2.2.2.2.2.2.2.2.2.1) : Nat) : Int)) (fun (r : ((List (Int)) × (Unit)) × (Unit)) => (br (decide ((((List.length x0) + (List.length r.1.1)) * (1 : Nat)) ≤ (140737488355328 : Nat)))
     (bdL (L_ref05Encode_0 k s0 k ((x0 ++ r.1.1), ((0 : Int), ())))
      (fun (b : (List (Int)) × ((Int) × (Unit))) => (some (.brk (b.1, ()))))
      (fun (j : Nat) => (fun (b : (List (Int)) × ((Int) × (Unit))) => (br (Nat.beq j (1017 : Nat))
       none
       (br (Nat.beq j (1017 : Nat))
        (some (.brk (b.1, ())))
        (some (.ext j (b.1, ())))))))
      (fun (q : Cur) => (fun (b : Unit) => (some (.ret q ())))))
     none)))
   (some (.brk (x0, ())))) := by kernel_rfl

theorem L_ref05Encode_1025_step (k m : Nat) (s0 : TOp) (s1 : Bool) (x0 : List (Int)) : L_ref05Encode_1025 k s0 s1 (m + 1) (x0, ()) =
  (br s1
   (bdL (L_ref05Encode_1027 k s0.2.2.2.2.2.2.2.2.2.2.2.1 (1 : Nat) ((0 : Int), ()))
    (fun (b : (Int) × (Unit)) => (bd (F_ref05num k b.1) (fun (r : ((List (Int)) × (Unit)) × (Unit)) => (br (decide ((((List.length x0) + (List.length r.1.1)) * (1 : Nat)) ≤ (140737488355328 : Nat)))
      (some (.brk ((x0 ++ r.1.1), ())))
      none))))
    (fun (j : Nat) => (fun (b : (Int) × (Unit)) => (br (Nat.beq j (1025 : Nat))
     none
     (br (Nat.beq j (1025 : Nat))
      (some (.brk (x0, ())))
      (some (.ext j (x0, ())))))))
    (fun (q : Cur) => (fun (b : Unit) => (some (.ret q ())))))
   (some (.brk (x0, ())))) := by kernel_rfl

theorem L_ref05Encode_1027_step (k m : Nat) (s0 : Bool) (x0 : Int) : L_ref05Encode_1027 k s0 (m + 1) (x0, ()) =
  (br s0
   (some (.brk ((1 : Int), ())))
   (some (.brk (x0, ())))) := by kernel_rfl

theorem F_ref05Encode_step (k : Nat) (a0 : TOp) : F_ref05Encode (k + 1) a0 =
  (bd (F_ref05Right k a0) (fun (r : ((Bool) × (Unit)) × (Unit)) => (br (!r.1.1)
    (some ((([] : List (Int)), (false, ())), ()))
    (bd (F_ref05num k a0.1) (fun (r1 : ((List (Int)) × (Unit)) × (Unit)) => (bd (F_ref05name k a0.2.1) (fun (r2 : ((List (Int)) × (Unit)) × (Unit)) => (br (decide ((((List.length r1.1.1) + (List.length r2.1.1)) * (1 : Nat)) ≤ (140737488355328 : Nat)))
         (bd (F_ref05num k a0.2.2.1) (fun (r3 : ((List (Int)) × (Unit)) × (Unit)) => (br (decide ((((List.length (r1.1.1 ++ r2.1.1)) + (List.length r3.1.1)) * (1 : Nat)) ≤ (140737488355328 : Nat)))
           (bdL (L_ref05Encode_1006 k a0 (cond (a0.1 == (2 : Int)) true (a0.1 == (6 : Int))) (1 : Nat) (((r1.1.1 ++ r2.1.1) ++ r3.1.1), ()))
            (fun (b : (List (Int)) × (Unit)) => (bdL (L_ref05Encode_1008 k a0 (cond (a0.1 == (3 : Int)) true (a0.1 == (5 : Int))) (1 : Nat) (b.1, ()))
             (fun (b1 : (List (Int)) × (Unit)) => (bdL (L_ref05Encode_1012 k a0 (cond (cond (a0.1 == (1 : Int)) true (a0.1 == (2 : Int))) true (a0.1 == (5 : Int))) (1 : Nat) (b1.1, ()))
              (fun (b2 : (List (Int)) × (Unit)) => (bdL (L_ref05Encode_1015 k a0 (a0.1 == (3 : Int)) (1 : Nat) (b2.1, ()))
               (fun (b3 : (List (Int)) × (Unit)) => (bdL (L_ref05Encode_1017 k a0 (a0.1 == (4 : Int)) (1 : Nat) (b3.1, ()))
                (fun (b4 : (List (Int)) × (Unit)) => (bdL (L_ref05Encode_1025 k a0 (a0.1 == (6 : Int)) (1 : Nat) (b4.1, ()))
                 (fun (b5 : (List (Int)) × (Unit)) => (some ((b5.1, (true, ())), ())))
                 (fun (j : Nat) => (fun (b5 : (List (Int)) × (Unit)) => none))
                 (fun (q : Cur) => (fun (b5 : Unit) => (some (q, ()))))))
                (fun (j : Nat) => (fun (b4 : (List (Int)) × (Unit)) => none))
                (fun (q : Cur) => (fun (b4 : Unit) => (some (q, ()))))))
               (fun (j : Nat) => (fun (b3 : (List (Int)) × (Unit)) => none))
               (fun (q : Cur) => (fun (b3 : Unit) => (some (q, ()))))))
              (fun (j : Nat) => (fun (b2 : (List (Int)) × (Unit)) => none))
              (fun (q : Cur) => (fun (b2 : Unit) => (some (q, ()))))))
             (fun (j : Nat) => (fun (b1 : (List (Int)) × (Unit)) => none))
             (fun (q : Cur) => (fun (b1 : Unit) => (some (q, ()))))))
            (fun (j : Nat) => (fun (b : (List (Int)) × (Unit)) => none))
            (fun (q : Cur) => (fun (b : Unit) => (some (q, ())))))
           none)))
         none)))))))) :=
 (show F_ref05Encode (k + 1) a0 =
  (bd (F_ref05Right k a0) (fun (r : ((Bool) × (Unit)) × (Unit)) => (br (!r.1.1)
    (some ((([] : List (Int)), (false, ())), ()))
    (both
     (both
      (bd (F_ref05num k a0.1) (fun (r1 : ((List (Int)) × (Unit)) × (Unit)) => (bd (F_ref05name k a0.2.1) (fun (r2 : ((List (Int)) × (Unit)) × (Unit)) => (br (decide ((((List.length r1.1.1) + (List.length r2.1.1)) * (1 : Nat)) ≤ (140737488355328 : Nat)))
         (bd (F_ref05num k a0.2.2.1) (fun (r3 : ((List (Int)) × (Unit)) × (Unit)) => (br (decide ((((List.length (r1.1.1 ++ r2.1.1)) + (List.length r3.1.1)) * (1 : Nat)) ≤ (140737488355328 : Nat)))
           (bdL (L_ref05Encode_1006 k a0 (cond (a0.1 == (2 : Int)) true (a0.1 == (6 : Int))) (1 : Nat) (((r1.1.1 ++ r2.1.1) ++ r3.1.1), ()))
            (fun (b : (List (Int)) × (Unit)) => (bdL (L_ref05Encode_1008 k a0 (cond (a0.1 == (3 : Int)) true (a0.1 == (5 : Int))) (1 : Nat) (b.1, ()))
             (fun (b1 : (List (Int)) × (Unit)) => (bdL (L_ref05Encode_1012 k a0 (cond (cond (a0.1 == (1 : Int)) true (a0.1 == (2 : Int))) true (a0.1 == (5 : Int))) (1 : Nat) (b1.1, ()))
              (fun (b2 : (List (Int)) × (Unit)) => (bdL (L_ref05Encode_1015 k a0 (a0.1 == (3 : Int)) (1 : Nat) (b2.1, ()))
               (fun (b3 : (List (Int)) × (Unit)) => (bdL (L_ref05Encode_1017 k a0 (a0.1 == (4 : Int)) (1 : Nat) (b3.1, ()))
                (fun (b4 : (List (Int)) × (Unit)) => (bdL (L_ref05Encode_1025 k a0 (a0.1 == (6 : Int)) (1 : Nat) (b4.1, ()))
                 (fun (b5 : (List (Int)) × (Unit)) => (some ((b5.1, (true, ())), ())))
                 (fun (j : Nat) => (fun (b5 : (List (Int)) × (Unit)) => none))
                 (fun (q : Cur) => (fun (b5 : Unit) => (some (q, ()))))))
                (fun (j : Nat) => (fun (b4 : (List (Int)) × (Unit)) => none))
                (fun (q : Cur) => (fun (b4 : Unit) => (some (q, ()))))))
               (fun (j : Nat) => (fun (b3 : (List (Int)) × (Unit)) => none))
               (fun (q : Cur) => (fun (b3 : Unit) => (some (q, ()))))))
              (fun (j : Nat) => (fun (b2 : (List (Int)) × (Unit)) => none))
              (fun (q : Cur) => (fun (b2 : Unit) => (some (q, ()))))))
             (fun (j : Nat) => (fun (b1 : (List (Int)) × (Unit)) => none))
             (fun (q : Cur) => (fun (b1 : Unit) => (some (q, ()))))))
            (fun (j : Nat) => (fun (b : (List (Int)) × (Unit)) => none))
            (fun (q : Cur) => (fun (b : Unit) => (some (q, ())))))
           none)))
         none)))))
      (bd (F_ref05num k a0.1) (fun (r1 : ((List (Int)) × (Unit)) × (Unit)) => (bd (F_ref05name k a0.2.1) (fun (r2 : ((List (Int)) × (Unit)) × (Unit)) => (br (decide ((((List.length r1.1.1) + (List.length r2.1.1)) * (1 : Nat)) ≤ (140737488355328 : Nat)))
         (bd (F_ref05num k a0.2.2.1) (fun (r3 : ((List (Int)) × (Unit)) × (Unit)) => (br (decide ((((List.length (r1.1.1 ++ r2.1.1)) + (List.length r3.1.1)) * (1 : Nat)) ≤ (140737488355328 : Nat)))
           (bdL (L_ref05Encode_1006 k a0 (cond (a0.1 == (2 : Int)) true (a0.1 == (6 : Int))) (1 : Nat) (((r1.1.1 ++ r2.1.1) ++ r3.1.1), ()))
            (fun (b : (List (Int)) × (Unit)) => (bdL (L_ref05Encode_1008 k a0 (cond (a0.1 == (3 : Int)) true (a0.1 == (5 : Int))) (1 : Nat) (b.1, ()))
             (fun (b1 : (List (Int)) × (Unit)) => (bdL (L_ref05Encode_1012 k a0 (cond (cond (a0.1 == (1 : Int)) true (a0.1 == (2 : Int))) true (a0.1 == (5 : Int))) (1 : Nat) (b1.1, ()))
              (fun (b2 : (List (Int)) × (Unit)) => (bdL (L_ref05Encode_1015 k a0 (a0.1 == (3 : Int)) (1 : Nat) (b2.1, ()))
               (fun (b3 : (List (Int)) × (Unit)) => (bdL (L_ref05Encode_1017 k a0 (a0.1 == (4 : Int)) (1 : Nat) (b3.1, ()))
                (fun (b4 : (List (Int)) × (Unit)) => (bdL (L_ref05Encode_1025 k a0 (a0.1 == (6 : Int)) (1 : Nat) (b4.1, ()))
                 (fun (b5 : (List (Int)) × (Unit)) => (some ((b5.1, (true, ())), ())))
                 (fun (j : Nat) => (fun (b5 : (List (Int)) × (Unit)) => none))
                 (fun (q : Cur) => (fun (b5 : Unit) => (some (q, ()))))))
                (fun (j : Nat) => (fun (b4 : (List (Int)) × (Unit)) => none))
                (fun (q : Cur) => (fun (b4 : Unit) => (some (q, ()))))))
               (fun (j : Nat) => (fun (b3 : (List (Int)) × (Unit)) => none))
               (fun (q : Cur) => (fun (b3 : Unit) => (some (q, ()))))))
              (fun (j : Nat) => (fun (b2 : (List (Int)) × (Unit)) => none))
              (fun (q : Cur) => (fun (b2 : Unit) => (some (q, ()))))))
             (fun (j : Nat) => (fun (b1 : (List (Int)) × (Unit)) => none))
             (fun (q : Cur) => (fun (b1 : Unit) => (some (q, ()))))))
            (fun (j : Nat) => (fun (b : (List (Int)) × (Unit)) => none))
            (fun (q : Cur) => (fun (b : Unit) => (some (q, ())))))
           none)))
         none))))))
     (bd (F_ref05num k a0.1) (fun (r1 : ((List (Int)) × (Unit)) × (Unit)) => (bd (F_ref05name k a0.2.1) (fun (r2 : ((List (Int)) × (Unit)) × (Unit)) => (br (decide ((((List.length r1.1.1) + (List.length r2.1.1)) * (1 : Nat)) ≤ (140737488355328 : Nat)))
        (bd (F_ref05num k a0.2.2.1) (fun (r3 : ((List (Int)) × (Unit)) × (Unit)) => (br (decide ((((List.length (r1.1.1 ++ r2.1.1)) + (List.length r3.1.1)) * (1 : Nat)) ≤ (140737488355328 : Nat)))
          (bdL (L_ref05Encode_1006 k a0 (cond (a0.1 == (2 : Int)) true (a0.1 == (6 : Int))) (1 : Nat) (((r1.1.1 ++ r2.1.1) ++ r3.1.1), ()))
           (fun (b : (List (Int)) × (Unit)) => (bdL (L_ref05Encode_1008 k a0 (cond (a0.1 == (3 : Int)) true (a0.1 == (5 : Int))) (1 : Nat) (b.1, ()))
            (fun (b1 : (List (Int)) × (Unit)) => (bdL (L_ref05Encode_1012 k a0 (cond (cond (a0.1 == (1 : Int)) true (a0.1 == (2 : Int))) true (a0.1 == (5 : Int))) (1 : Nat) (b1.1, ()))
             (fun (b2 : (List (Int)) × (Unit)) => (bdL (L_ref05Encode_1015 k a0 (a0.1 == (3 : Int)) (1 : Nat) (b2.1, ()))
              (fun (b3 : (List (Int)) × (Unit)) => (bdL (L_ref05Encode_1017 k a0 (a0.1 == (4 : Int)) (1 : Nat) (b3.1, ()))
               (fun (b4 : (List (Int)) × (Unit)) => (bdL (L_ref05Encode_1025 k a0 (a0.1 == (6 : Int)) (1 : Nat) (b4.1, ()))
                (fun (b5 : (List (Int)) × (Unit)) => (some ((b5.1, (true, ())), ())))
                (fun (j : Nat) => (fun (b5 : (List (Int)) × (Unit)) => none))
                (fun (q : Cur) => (fun (b5 : Unit) => (some (q, ()))))))
               (fun (j : Nat) => (fun (b4 : (List (Int)) × (Unit)) => none))
               (fun (q : Cur) => (fun (b4 : Unit) => (some (q, ()))))))
              (fun (j : Nat) => (fun (b3 : (List (Int)) × (Unit)) => none))
              (fun (q : Cur) => (fun (b3 : Unit) => (some (q, ()))))))
             (fun (j : Nat) => (fun (b2 : (List (Int)) × (Unit)) => none))
             (fun (q : Cur) => (fun (b2 : Unit) => (some (q, ()))))))
            (fun (j : Nat) => (fun (b1 : (List (Int)) × (Unit)) => none))
            (fun (q : Cur) => (fun (b1 : Unit) => (some (q, ()))))))
           (fun (j : Nat) => (fun (b : (List (Int)) × (Unit)) => none))
           (fun (q : Cur) => (fun (b : Unit) => (some (q, ())))))
          none)))
        none))))))))) by kernel_rfl).trans (by simp only [both_self])

noncomputable def L_ref05EncodeAll_0 (k : Nat) (s0 : List (TOp)) : Nat → (List (Int)) × ((Bool) × ((List (Int)) × ((Int) × (Unit)))) → Option (LO (Cur) ((List (Int)) × ((Bool) × ((List (Int)) × ((Int) × (Unit))))) (Unit)) :=
  loopF true 0 33 42000000 41 cut42000000_41_0 (s0, ()) (fun σ K => bodyAt E0 (fnE E0 k) (inl5 E0 (fnE E0 k) k) 41 (rvOf 41) k (codeOf 41 0) _ σ K)

theorem L_ref05EncodeAll_0_step (k m : Nat) (s0 : List (TOp)) (x0 : List (Int)) (x1 : Bool) (x2 : List (Int)) (x3 : Int) : L_ref05EncodeAll_0 k s0 (m + 1) (x0, x1, x2, x3, ()) =
  (br (decide (x3 < (((List.length s0) : Nat) : Int)))
   (br (inB x3 (List.length s0))
    (bd (F_ref05Encode k (List.getD s0 (Int.toNat x3) ((0 : Int), (((0 : Int), ((0 : Int), ())), ((0 : Int), (((0 : Int), ((0 : Int), ())), (((0 : Int), ((0 : Int), ())), (([] : List (UInt8)), (((0 : Int), ((0 : Int), ())), ((((0 : Int), ((0 : Int), ())), ((0 : Int), ())), ((((0 : Int), ((0 : Int), ())), ((0 : Int), ())), (([] : List (UInt8)), (([] : List (TCut)), (false, ())))))))))))))) (fun (r : (Cur) × (Unit)) => (br (!r.1.2.1)
      (some (.ret (([] : List (Int)), (false, ())) ()))
      (bd (F_ref01PutText k (List.map (fun (n : Int) => (UInt8.ofNat (Int.toNat n))) r.1.1)) (fun (r1 : ((List (Int)) × (Unit)) × (Unit)) => (br (decide ((((List.length x2) + (List.length r1.1.1)) * (1 : Nat)) ≤ (140737488355328 : Nat)))
        (L_ref05EncodeAll_0 k s0 m (x0, (x1, ((x2 ++ r1.1.1), ((IntKind.wrap (IntKind.i64) (x3 + (1 : Int))), ())))))
        none))))))
    none)
   (some (.brk (x0, (x1, (x2, (x3, ()))))))) := by kernel_rfl

theorem F_ref05EncodeAll_step (k : Nat) (a0 : List (TOp)) : F_ref05EncodeAll (k + 1) a0 =
  (bd (F_ref05num k (((List.length a0) : Nat) : Int)) (fun (r : ((List (Int)) × (Unit)) × (Unit)) => (bdL (L_ref05EncodeAll_0 k a0 k (([] : List (Int)), (false, (r.1.1, ((0 : Int), ())))))
    (fun (b : (List (Int)) × ((Bool) × ((List (Int)) × ((Int) × (Unit))))) => (some ((b.2.2.1, (true, ())), ())))
    (fun (j : Nat) => (fun (b : (List (Int)) × ((Bool) × ((List (Int)) × ((Int) × (Unit))))) => none))
    (fun (q : Cur) => (fun (b : Unit) => (some (q, ()))))))) := by kernel_rfl

end Go.Proofs.YtkfikongenapfaaDoor.E

namespace Go.Proofs.YtkfikongenapfaaDoor.E
open Go
set_option linter.unusedVariables false
set_option maxRecDepth 100000
noncomputable def F_law05alive (k : Nat)  : Option (((Bool) × (Unit)) × (Unit)) := fnE E0 k 24 ()

noncomputable def F_law05OpLists (k : Nat) (a0 : List (TOp)) (a1 : Int) : Option (((Bool) × (Unit)) × (Unit)) := fnE E0 k 9 (a0, a1, ())

theorem F_law05alive_step (k : Nat)  : F_law05alive (k + 1)  =
  (bd (F_law05fold k ) (fun (r : ((TOp) × (Unit)) × (Unit)) => (bd (F_opEncode k r.1.1) (fun (r1 : (Cur) × (Unit)) => (bd (F_opDecode k ((6 : Int) :: ((1 : Int) :: ((2 : Int) :: ((3 : Int) :: ((0 : Int) :: ((1 : Int) :: ((1 : Int) :: ([] : List (Int)))))))))) (fun (r2 : ((TOp) × ((Bool) × (Unit))) × (Unit)) => (bd (F_law05fold k ) (fun (r3 : ((TOp) × (Unit)) × (Unit)) => (bd (F_opNeeds k r3.1.1) (fun (r4 : ((List (TId)) × (Unit)) × (Unit)) => (br (boolEq r1.1.2.1 true)
        (br (boolEq (cond true r2.1.2.1 false) true)
         (bd (F_ref00SameBytes k r1.1.1 ((6 : Int) :: ((1 : Int) :: ((2 : Int) :: ((3 : Int) :: ((0 : Int) :: ((1 : Int) :: ((1 : Int) :: ([] : List (Int)))))))))) (fun (r5 : ((Bool) × (Unit)) × (Unit)) => (br (boolEq (cond true r5.1.1 false) true)
            (bd (F_law05fold k ) (fun (r6 : ((TOp) × (Unit)) × (Unit)) => (bd (F_ref00SameOp k r2.1.1 r6.1.1) (fun (r7 : ((Bool) × (Unit)) × (Unit)) => (br (boolEq (cond true r7.1.1 false) true)
               (br (boolEq (cond true ((((List.length r4.1.1) : Nat) : Int) == (1 : Int)) false) true)
                (br (inB (0 : Int) (List.length r4.1.1))
                 (br (boolEq (cond true (denEq (.pair (.int .i64) (.pair (.int .i64) .unit)) (List.getD r4.1.1 (0 : Nat) ((0 : Int), ((0 : Int), ()))) ((0 : Int), ((1 : Int), ()))) false) true)
                   (bd (F_opRight k zOp) (fun (r8 : ((Bool) × (Unit)) × (Unit)) => (br (boolEq (cond true (!r8.1.1) false) true)
                      (bd (F_law05fold k ) (fun (r9 : ((TOp) × (Unit)) × (Unit)) => (bd (F_opSame k r2.1.1 r9.1.1) (fun (r10 : ((Bool) × (Unit)) × (Unit)) => (some ((r10.1.1, ()), ()))))))
                      (some ((false, ()), ())))))
                   (some ((false, ()), ())))
                 none)
                (some ((false, ()), ())))
               (some ((false, ()), ())))))))
            (some ((false, ()), ())))))
         (some ((false, ()), ())))
        (some ((false, ()), ()))))))))))))) :=
 (show F_law05alive (k + 1)  =
  (bd (F_law05fold k ) (fun (r : ((TOp) × (Unit)) × (Unit)) => (bd (F_opEncode k r.1.1) (fun (r1 : (Cur) × (Unit)) => (bd (F_opDecode k ((6 : Int) :: ((1 : Int) :: ((2 : Int) :: ((3 : Int) :: ((0 : Int) :: ((1 : Int) :: ((1 : Int) :: ([] : List (Int)))))))))) (fun (r2 : ((TOp) × ((Bool) × (Unit))) × (Unit)) => (bd (F_law05fold k ) (fun (r3 : ((TOp) × (Unit)) × (Unit)) => (bd (F_opNeeds k r3.1.1) (fun (r4 : ((List (TId)) × (Unit)) × (Unit)) => (br (boolEq r1.1.2.1 true)
        (br (boolEq (cond true r2.1.2.1 false) true)
         (bd (F_ref00SameBytes k r1.1.1 ((6 : Int) :: ((1 : Int) :: ((2 : Int) :: ((3 : Int) :: ((0 : Int) :: ((1 : Int) :: ((1 : Int) :: ([] : List (Int)))))))))) (fun (r5 : ((Bool) × (Unit)) × (Unit)) => (both
           (br (boolEq (cond true r5.1.1 false) true)
            (bd (F_law05fold k ) (fun (r6 : ((TOp) × (Unit)) × (Unit)) => (bd (F_ref00SameOp k r2.1.1 r6.1.1) (fun (r7 : ((Bool) × (Unit)) × (Unit)) => (br (boolEq (cond true r7.1.1 false) true)
               (br (boolEq (cond true ((((List.length r4.1.1) : Nat) : Int) == (1 : Int)) false) true)
                (br (inB (0 : Int) (List.length r4.1.1))
                 (both
                  (br (boolEq (cond true (denEq (.pair (.int .i64) (.pair (.int .i64) .unit)) (List.getD r4.1.1 (0 : Nat) ((0 : Int), ((0 : Int), ()))) ((0 : Int), ((1 : Int), ()))) false) true)
                   (bd (F_opRight k zOp) (fun (r8 : ((Bool) × (Unit)) × (Unit)) => (both
                     (br (boolEq (cond true (!r8.1.1) false) true)
                      (bd (F_law05fold k ) (fun (r9 : ((TOp) × (Unit)) × (Unit)) => (bd (F_opSame k r2.1.1 r9.1.1) (fun (r10 : ((Bool) × (Unit)) × (Unit)) => (some ((r10.1.1, ()), ()))))))
                      (some ((false, ()), ())))
                     (br (boolEq (cond true (!r8.1.1) false) true)
                      (bd (F_law05fold k ) (fun (r9 : ((TOp) × (Unit)) × (Unit)) => (bd (F_opSame k r2.1.1 r9.1.1) (fun (r10 : ((Bool) × (Unit)) × (Unit)) => (some ((r10.1.1, ()), ()))))))
                      (some ((false, ()), ()))))))
                   (both
                    (some ((false, ()), ()))
                    (some ((false, ()), ()))))
                  (br (boolEq (cond true (denEq (.pair (.int .i64) (.pair (.int .i64) .unit)) (List.getD r4.1.1 (0 : Nat) ((0 : Int), ((0 : Int), ()))) ((0 : Int), ((1 : Int), ()))) false) true)
                   (bd (F_opRight k zOp) (fun (r8 : ((Bool) × (Unit)) × (Unit)) => (both
                     (br (boolEq (cond true (!r8.1.1) false) true)
                      (bd (F_law05fold k ) (fun (r9 : ((TOp) × (Unit)) × (Unit)) => (bd (F_opSame k r2.1.1 r9.1.1) (fun (r10 : ((Bool) × (Unit)) × (Unit)) => (some ((r10.1.1, ()), ()))))))
                      (some ((false, ()), ())))
                     (br (boolEq (cond true (!r8.1.1) false) true)
                      (bd (F_law05fold k ) (fun (r9 : ((TOp) × (Unit)) × (Unit)) => (bd (F_opSame k r2.1.1 r9.1.1) (fun (r10 : ((Bool) × (Unit)) × (Unit)) => (some ((r10.1.1, ()), ()))))))
                      (some ((false, ()), ()))))))
                   (both
                    (some ((false, ()), ()))
                    (some ((false, ()), ())))))
                 none)
                (both
                 (both
                  (some ((false, ()), ()))
                  (some ((false, ()), ())))
                 (both
                  (some ((false, ()), ()))
                  (some ((false, ()), ())))))
               (both
                (both
                 (some ((false, ()), ()))
                 (some ((false, ()), ())))
                (both
                 (some ((false, ()), ()))
                 (some ((false, ()), ())))))))))
            (both
             (both
              (some ((false, ()), ()))
              (some ((false, ()), ())))
             (both
              (some ((false, ()), ()))
              (some ((false, ()), ())))))
           (br (boolEq (cond true r5.1.1 false) true)
            (bd (F_law05fold k ) (fun (r6 : ((TOp) × (Unit)) × (Unit)) => (bd (F_ref00SameOp k r2.1.1 r6.1.1) (fun (r7 : ((Bool) × (Unit)) × (Unit)) => (br (boolEq (cond true r7.1.1 false) true)
               (br (boolEq (cond true ((((List.length r4.1.1) : Nat) : Int) == (1 : Int)) false) true)
                (br (inB (0 : Int) (List.length r4.1.1))
                 (both
                  (br (boolEq (cond true (denEq (.pair (.int .i64) (.pair (.int .i64) .unit)) (List.getD r4.1.1 (0 : Nat) ((0 : Int), ((0 : Int), ()))) ((0 : Int), ((1 : Int), ()))) false) true)
                   (bd (F_opRight k zOp) (fun (r8 : ((Bool) × (Unit)) × (Unit)) => (both
                     (br (boolEq (cond true (!r8.1.1) false) true)
                      (bd (F_law05fold k ) (fun (r9 : ((TOp) × (Unit)) × (Unit)) => (bd (F_opSame k r2.1.1 r9.1.1) (fun (r10 : ((Bool) × (Unit)) × (Unit)) => (some ((r10.1.1, ()), ()))))))
                      (some ((false, ()), ())))
                     (br (boolEq (cond true (!r8.1.1) false) true)
                      (bd (F_law05fold k ) (fun (r9 : ((TOp) × (Unit)) × (Unit)) => (bd (F_opSame k r2.1.1 r9.1.1) (fun (r10 : ((Bool) × (Unit)) × (Unit)) => (some ((r10.1.1, ()), ()))))))
                      (some ((false, ()), ()))))))
                   (both
                    (some ((false, ()), ()))
                    (some ((false, ()), ()))))
                  (br (boolEq (cond true (denEq (.pair (.int .i64) (.pair (.int .i64) .unit)) (List.getD r4.1.1 (0 : Nat) ((0 : Int), ((0 : Int), ()))) ((0 : Int), ((1 : Int), ()))) false) true)
                   (bd (F_opRight k zOp) (fun (r8 : ((Bool) × (Unit)) × (Unit)) => (both
                     (br (boolEq (cond true (!r8.1.1) false) true)
                      (bd (F_law05fold k ) (fun (r9 : ((TOp) × (Unit)) × (Unit)) => (bd (F_opSame k r2.1.1 r9.1.1) (fun (r10 : ((Bool) × (Unit)) × (Unit)) => (some ((r10.1.1, ()), ()))))))
                      (some ((false, ()), ())))
                     (br (boolEq (cond true (!r8.1.1) false) true)
                      (bd (F_law05fold k ) (fun (r9 : ((TOp) × (Unit)) × (Unit)) => (bd (F_opSame k r2.1.1 r9.1.1) (fun (r10 : ((Bool) × (Unit)) × (Unit)) => (some ((r10.1.1, ()), ()))))))
                      (some ((false, ()), ()))))))
                   (both
                    (some ((false, ()), ()))
                    (some ((false, ()), ())))))
                 none)
                (both
                 (both
                  (some ((false, ()), ()))
                  (some ((false, ()), ())))
                 (both
                  (some ((false, ()), ()))
                  (some ((false, ()), ())))))
               (both
                (both
                 (some ((false, ()), ()))
                 (some ((false, ()), ())))
                (both
                 (some ((false, ()), ()))
                 (some ((false, ()), ())))))))))
            (both
             (both
              (some ((false, ()), ()))
              (some ((false, ()), ())))
             (both
              (some ((false, ()), ()))
              (some ((false, ()), ()))))))))
         (both
          (both
           (both
            (some ((false, ()), ()))
            (some ((false, ()), ())))
           (both
            (some ((false, ()), ()))
            (some ((false, ()), ()))))
          (both
           (both
            (some ((false, ()), ()))
            (some ((false, ()), ())))
           (both
            (some ((false, ()), ()))
            (some ((false, ()), ()))))))
        (both
         (both
          (both
           (some ((false, ()), ()))
           (some ((false, ()), ())))
          (both
           (some ((false, ()), ()))
           (some ((false, ()), ()))))
         (both
          (both
           (some ((false, ()), ()))
           (some ((false, ()), ())))
          (both
           (some ((false, ()), ()))
           (some ((false, ()), ())))))))))))))))) by kernel_rfl).trans (by simp only [both_self])

theorem F_law05OpLists_step (k : Nat) (a0 : List (TOp)) (a1 : Int) : F_law05OpLists (k + 1) a0 a1 =
  (bd (F_law05alive k ) (fun (r : ((Bool) × (Unit)) × (Unit)) => (br (!r.1.1)
    (some ((false, ()), ()))
    (bd (F_ref00Long k a0 (60 : Int)) (fun (r1 : ((Bool) × (Unit)) × (Unit)) => (br r1.1.1
      (some ((true, ()), ()))
      (bd (F_opEncodeAll k a0) (fun (r2 : (Cur) × (Unit)) => (bd (F_ref05EncodeAll k a0) (fun (r3 : (Cur) × (Unit)) => (bd (F_ref00SameBytes k r2.1.1 r3.1.1) (fun (r4 : ((Bool) × (Unit)) × (Unit)) => (br (cond (!r4.1.1) true (!(r2.1.2.1 == r3.1.2.1)))
          (some ((false, ()), ()))
          (br (!r2.1.2.1)
           (some ((true, ()), ()))
           (bd (F_opDecodeAll k r2.1.1) (fun (r5 : ((List (TOp)) × ((Bool) × (Unit))) × (Unit)) => (br (!r5.1.2.1)
             (some ((false, ()), ()))
             (bd (F_ref00SameOps k r5.1.1 a0) (fun (r6 : ((Bool) × (Unit)) × (Unit)) => (br (cond false true (!r6.1.1))
               (some ((false, ()), ()))
               (br (cond (decide (a1 < (0 : Int))) true (decide (a1 ≥ (((List.length r2.1.1) : Nat) : Int))))
                (some ((true, ()), ()))
                (br ((true && (leB a1 (List.length r2.1.1))) && true)
                 (bd (F_opDecodeAll k (List.take ((Int.toNat a1) - (0 : Nat)) (List.drop (0 : Nat) r2.1.1))) (fun (r7 : ((List (TOp)) × ((Bool) × (Unit))) × (Unit)) => (some (((!r7.1.2.1), ()), ()))))
                 none)))))))))))))))))))))) := by kernel_rfl

end Go.Proofs.YtkfikongenapfaaDoor.E

namespace Go.Proofs.YtkfikongenapfaaDoor.E
open Go
set_option linter.unusedSimpArgs false
set_option linter.unusedVariables false
theorem dec_fold : dec [6, 1, 2, 3, 0, 1, 1] = (foldOp, (true, ())) := by rw [← fold_enc]; exact dec_enc fold_right

theorem F_law05alive_eq (k : Nat) : F_law05alive (k + 1300) = some ((true, ()), ()) := by
  rw [F_law05alive_step, F_law05fold_eq]
  simp only [bd_s]
  rw [F_opEncode_eq, F_opDecode_eq _ _ (by intro x hx; simp at hx; omega) (by simp), dec_fold]
  simp only [bd_s]
  rw [F_opNeeds_eq _ _ (by decide), fold_needs, fold_right, fold_enc]
  simp only [bd_s, if_true, boolEq, br_true, Bool.cond_true]
  rw [F_ref00SameBytes_eq _ _ _ (by simp <;> omega) (by simp)]
  simp only [bd_s]
  rw [F_ref00SameOp_eq _ _ _ (fun _ => ⟨by show 0 < _; omega, by decide⟩)]
  simp only [bd_s]
  rw [F_opRight_eq, zero_right]
  simp only [bd_s]
  rw [F_opSame_eq _ _ _ (fun _ => ⟨by show 0 < _; omega, by decide⟩)]
  simp [inB]

theorem long_small {o : TOp} (h : longOp o = false) : smallOp o ∧ o.2.2.2.2.2.2.2.2.2.2.1.length ≤ 40 := by
  simp only [longOp, Bool.or_eq_false_iff, decide_eq_false_iff_not] at h
  refine ⟨⟨?_, ?_, ?_⟩, ?_⟩ <;> omega

/-! OpNeeds -/
end Go.Proofs.YtkfikongenapfaaDoor.E

namespace Go.Proofs.YtkfikongenapfaaDoor.E
open Go
set_option linter.unusedSimpArgs false
set_option linter.unusedVariables false
/-! the document's op: what is right, what bytes it has -/
theorem F_ref05kept_eq (k : Nat) (o : TOp) : F_ref05kept (k + 1) o = some ((own o, ()), ()) := by
  obtain ⟨kd, i, t, blk, par, key, seg, lf, rt, tx, cu, fl, u⟩ := o
  rw [F_ref05kept_step]
  dsimp only
  unfold own
  by_cases h1 : kd = 1
  · simp [h1, parts, bare, partCopy]
  by_cases h2 : kd = 2
  · simp [h2, parts, bare, partCopy]
  by_cases h3 : kd = 3
  · simp [h3, parts, bare, partCopy]
  by_cases h4 : kd = 4
  · simp [h4, parts, bare, partCopy]
  by_cases h5 : kd = 5
  · simp [h5, parts, bare, partCopy]
  by_cases h6 : kd = 6
  · simp [h6, parts, bare, partCopy]
  · simp [beqF h1, beqF h2, beqF h3, beqF h4, beqF h5, beqF h6, h1, h2, h3, h4, h5, h6, parts, bare, partCopy]

theorem ref_cuts (k : Nat) (o : TOp) : ∀ (m i : Nat), o.2.2.2.2.2.2.2.2.2.2.1.length ≤ 1000 → i ≤ o.2.2.2.2.2.2.2.2.2.2.1.length → o.2.2.2.2.2.2.2.2.2.2.1.length - i < m →
    ((∃ b, L_ref05Right_1 (k + 2) o m (false, ((i : Int), ())) = some (.brk b)) ∧ (o.2.2.2.2.2.2.2.2.2.2.1.drop i).all rightCut = true) ∨
    (L_ref05Right_1 (k + 2) o m (false, ((i : Int), ())) = some (.ret (false, ()) ()) ∧ (o.2.2.2.2.2.2.2.2.2.2.1.drop i).all rightCut = false) := by
  intro m
  induction m with
  | zero => intro i _ _ h; omega
  | succ m ih =>
    intro i hl h1 h2
    rw [L_ref05Right_1_step]
    by_cases h : i < o.2.2.2.2.2.2.2.2.2.2.1.length
    · rw [br_t (i_lt h), br_t (i_in h), getD_of h, F_ref03RightOp_eq, i_nx (by omega), List.drop_eq_getElem_cons h]
      simp only [bd_s, List.all_cons]
      cases hc : rightCut (o.2.2.2.2.2.2.2.2.2.2.1[i]) with
      | false =>
        refine .inr ⟨?_, rfl⟩
        rw [br_t]
        revert hc
        unfold rightCut
        cases rightOp (o.2.2.2.2.2.2.2.2.2.2.1[i]).1 <;> simp <;> omega
      | true =>
        rw [br_f]
        · rcases ih (i + 1) hl (by omega) (by omega) with ⟨⟨b, e⟩, e2⟩ | ⟨e, e2⟩
          · exact .inl ⟨⟨b, e⟩, by simpa using e2⟩
          · exact .inr ⟨e, by simpa using e2⟩
        · revert hc
          unfold rightCut
          cases rightOp (o.2.2.2.2.2.2.2.2.2.2.1[i]).1 <;> simp <;> omega
    · have : i = o.2.2.2.2.2.2.2.2.2.2.1.length := by omega
      rw [br_f (by simp; omega)]
      exact .inl ⟨⟨_, rfl⟩, by rw [List.drop_eq_nil_of_le (by omega)]; rfl⟩

/-- what is asked kind by kind -/
def sw (o : TOp) (pl tx : Bool) : Bool :=
  if o.1 = 1 then pl
  else if o.1 = 2 then pl && rightOp o.2.2.2.1
  else if o.1 = 3 then tx && decide (1 ≤ o.2.2.2.2.2.2.2.2.2.1.length) && decide (o.2.2.2.2.2.2.2.2.2.1.length ≤ 64)
  else if o.1 = 5 then tx && pl
  else if o.1 = 6 then rightOp o.2.2.2.1
  else if o.1 = 4 then o.2.2.2.2.2.2.2.2.2.2.1.all rightCut && decide (1 ≤ o.2.2.2.2.2.2.2.2.2.2.1.length) && decide (o.2.2.2.2.2.2.2.2.2.2.1.length ≤ 16)
  else false

theorem ref_sw (k : Nat) (o : TOp) (s1 s2 : Bool) (hc : o.2.2.2.2.2.2.2.2.2.2.1.length ≤ 1000) :
    (bdL (L_ref05Right_0 (k + 1099) o s1 s2 o.1 1 (false, ())) (fun (b : Bool × Unit) => (some ((false, ()), ()) : Option ((Bool × Unit) × Unit))) (fun (j : Nat) => (fun (b : Bool × Unit) => none)) (fun (q : Bool × Unit) => (fun (b : Unit) => some (q, ())))) = some ((sw o s1 s2, ()), ()) := by
  rw [show (1 : Nat) = 0 + 1 from rfl, L_ref05Right_0_step]
  unfold sw
  have c1 : ∀ n : Nat, decide (((n : Nat) : Int) ≥ 1) = decide (1 ≤ n) := fun n => by apply decide_eq_decide.2; omega
  have c2 : ∀ n : Nat, decide (((n : Nat) : Int) ≤ 64) = decide (n ≤ 64) := fun n => by apply decide_eq_decide.2; omega
  have c3 : ∀ n : Nat, decide (((n : Nat) : Int) ≤ 16) = decide (n ≤ 16) := fun n => by apply decide_eq_decide.2; omega
  by_cases h1 : o.1 = 1
  · simp [h1]
  by_cases h2 : o.1 = 2
  · cases s1 <;> simp [h2, F_ref03RightOp_eq]
  by_cases h3 : o.1 = 3
  · simp only [h3, c1, c2]; simp
  by_cases h5 : o.1 = 5
  · simp [h5]
  by_cases h6 : o.1 = 6
  · simp [h6, F_ref03RightOp_eq]
  by_cases h4 : o.1 = 4
  · simp only [h4, c1, c3, if_true, if_false, Int.reduceEq, reduceCtorEq, br_f (show ((4 : Int) == 1) = false from rfl), br_f (show ((4 : Int) == 2) = false from rfl), br_f (show ((4 : Int) == 3) = false from rfl), br_f (show ((4 : Int) == 5) = false from rfl), br_f (show ((4 : Int) == 6) = false from rfl), br_t (show ((4 : Int) == 4) = true from rfl)]
    rcases ref_cuts (k + 1097) o (k + 1099) 0 hc (by omega) (by omega) with ⟨⟨b, e⟩, e2⟩ | ⟨e, e2⟩
    · rw [show k + 1097 + 2 = k + 1099 from rfl, show ((0 : Nat) : Int) = 0 from rfl] at e
      rw [e]
      simp only [List.drop_zero] at e2
      simp [e2]
    · rw [show k + 1097 + 2 = k + 1099 from rfl, show ((0 : Nat) : Int) = 0 from rfl] at e
      rw [e]
      simp only [List.drop_zero] at e2
      simp [e2]
  · simp [beqF h1, beqF h2, beqF h3, beqF h4, beqF h5, beqF h6, h1, h2, h3, h4, h5, h6]

def refR (o : TOp) : Bool :=
  rightOp o.2.1 && decide (1 ≤ o.2.2.1) && decide (o.2.2.1 ≤ 1099511627776) && decide (own o = o) &&
    sw o (rightBlock o.2.2.2.2.1 && rightKey o.2.2.2.2.2.1) (rightOp o.2.2.2.2.2.2.1 && rightChar o.2.2.2.2.2.2.2.1 && rightChar o.2.2.2.2.2.2.2.2.1)

theorem refR_eq (o : TOp) : refR o = right o := by
  obtain ⟨kd, i, t, blk, par, key, seg, lf, rt, tx, cu, fl, u⟩ := o
  unfold refR right
  dsimp only
  generalize own (kd, i, t, blk, par, key, seg, lf, rt, tx, cu, fl, u) = w
  have hst : rightOp i = true → rightStamp (t, i.1, ()) = (decide (1 ≤ t) && decide (t ≤ 1099511627776)) := by
    intro h
    simp [rightOp] at h
    simp only [rightStamp]
    have e1 : decide (i.1 ≥ 0) = true := by simp; omega
    have e2 : decide (i.1 < 16) = true := by simp; omega
    rw [e1, e2]; simp
  cases hi : rightOp i with
  | false => simp
  | true =>
    rw [hst hi]
    have ct : (!(tx == []) && decide (tx.length ≤ 64)) = (decide (1 ≤ tx.length) && decide (tx.length ≤ 64)) := by cases tx <;> simp
    have sw0 : sw (kd, i, t, blk, par, key, seg, lf, rt, tx, cu, fl, u) (rightBlock par && rightKey key) (rightOp seg && rightChar lf && rightChar rt) = (!(parts kd).length == 0 && ((parts kd).all fun p => partRight p (kd, i, t, blk, par, key, seg, lf, rt, tx, cu, fl, u))) := by
      unfold sw
      dsimp only
      by_cases h1 : kd = 1
      · simp [h1, parts, partRight]
      by_cases h2 : kd = 2
      · simp [h2, parts, partRight]; rw [Bool.and_comm]
      by_cases h3 : kd = 3
      · simp only [h3, parts, partRight, if_true, if_false, Int.reduceEq, reduceCtorEq, ct, List.all_cons, List.all_nil, Bool.and_true]; simp [Bool.and_assoc]
      by_cases h5 : kd = 5
      · simp [h5, parts, partRight]
      by_cases h6 : kd = 6
      · simp [h6, parts, partRight]
      by_cases h4 : kd = 4
      · simp only [h4, parts, partRight, if_true, if_false, Int.reduceEq, reduceCtorEq, List.all_cons, List.all_nil, Bool.and_true]
        simp only [List.length_cons, List.length_nil, Nat.zero_add, Nat.reduceBEq, Bool.not_false, Bool.true_and]
        rw [Bool.and_assoc, Bool.and_comm]; rfl
      · simp [h1, h2, h3, h4, h5, h6, parts]
    rw [sw0]
    cases decide (1 ≤ t) <;> cases decide (t ≤ 1099511627776) <;> cases decide (w = (kd, i, t, blk, par, key, seg, lf, rt, tx, cu, fl, u)) <;> simp

theorem F_ref05Right_eq (k : Nat) (o : TOp) (hc : o.2.2.2.2.2.2.2.2.2.2.1.length ≤ 1000) : F_ref05Right (k + 1100) o = some ((right o, ()), ()) := by
  rw [← refR_eq, F_ref05Right_step, F_ref03RightOp_eq]
  simp only [bd_s]
  unfold refR
  cases h1 : rightOp o.2.1 with
  | false => rw [br_f (by rfl)]; rfl
  | true =>
    rw [br_t (by rfl)]
    by_cases h2 : o.2.2.1 < 1
    · rw [br_f (by simp [h2, boolEq]), decide_eq_false (p := 1 ≤ o.2.2.1) (by omega)]; rfl
    · rw [br_t (by simp [h2, boolEq]), decide_eq_true (p := 1 ≤ o.2.2.1) (by omega)]
      by_cases h3 : o.2.2.1 > 1099511627776
      · rw [br_f (by simp [h3, boolEq]), decide_eq_false (p := o.2.2.1 ≤ 1099511627776) (by omega)]; rfl
      · rw [br_t (by simp [h3, boolEq]), decide_eq_true (p := o.2.2.1 ≤ 1099511627776) (by omega), F_ref05kept_eq]
        simp only [bd_s]
        have ho : (own o).2.2.2.2.2.2.2.2.2.2.1.length ≤ 1000 := by
          rcases own_cuts o with h | ⟨h, _⟩ <;> rw [h]
          · simp
          · exact hc
        rw [F_ref00SameOp_eq _ _ _ (fun _ => ⟨by omega, by omega⟩)]
        simp only [bd_s]
        by_cases h4 : own o = o
        · rw [br_f (by simp [h4]), F_ref03RightBlock_eq]
          simp only [bd_s, F_ref04Right_eq, F_ref03RightOp_eq, F_ref03RightChar_eq, ref_sw k o _ _ hc]
          rw [decide_eq_true h4]
          cases rightBlock o.2.2.2.2.1 <;> cases rightKey o.2.2.2.2.2.1 <;> cases rightOp o.2.2.2.2.2.2.1 <;> cases rightChar o.2.2.2.2.2.2.2.1 <;> cases rightChar o.2.2.2.2.2.2.2.2.1 <;> rfl
        · rw [br_t (by simp [h4]), decide_eq_false h4]; rfl

theorem F_ref05num_eq (k : Nat) (n : Int) : F_ref05num (k + 13) n = some ((putN n, ()), ()) := by
  obtain ⟨b, e⟩ := F_ref01Put_N k n
  rw [F_ref05num_step, e]; rfl

theorem F_ref05name_eq (k : Nat) (i : TId) : F_ref05name (k + 14) i = some ((nameP i, ()), ()) := by
  have := putN_len i.1; have := putN_len i.2.1
  rw [F_ref05name_step, F_ref05num_eq]
  simp only [bd_s]
  rw [F_ref05num_eq]
  simp only [bd_s]
  rw [br_t (by simp; omega)]; rfl

theorem F_ref05char_eq (k : Nat) (c : TChar) : F_ref05char (k + 15) c = some ((charP c, ()), ()) := by
  have := nameP_len c.1; have := putN_len c.2.1
  rw [F_ref05char_step, F_ref05name_eq]
  simp only [bd_s]
  rw [F_ref05num_eq]
  simp only [bd_s]
  rw [br_t (by simp; omega)]; rfl

theorem enc1006 (k : Nat) (o : TOp) (b : Bool) (w : List Int) (hw : w.length ≤ 1000000) : L_ref05Encode_1006 (k + 100) o b 1 (w, ()) = some (.brk (w ++ (if b = true then partPut 0 o else []), ())) := by
  obtain ⟨kd, i, t, blk, par, key, seg, lf, rt, tx, cu, fl, u⟩ := o
  rw [show (1 : Nat) = 0 + 1 from rfl, L_ref05Encode_1006_step]
  cases b with
  | false => simp
  | true =>
    have := nameP_len blk
    rw [br_true, F_ref05name_eq]
    simp only [bd_s]
    rw [br_t (by simp; omega)]; rfl

theorem enc1008 (k : Nat) (o : TOp) (b : Bool) (w : List Int) (hw : w.length ≤ 1000000) : L_ref05Encode_1008 (k + 100) o b 1 (w, ()) = some (.brk (w ++ (if b = true then partPut 1 o else []), ())) := by
  obtain ⟨kd, i, t, blk, par, key, seg, lf, rt, tx, cu, fl, u⟩ := o
  rw [show (1 : Nat) = 0 + 1 from rfl, L_ref05Encode_1008_step]
  cases b with
  | false => simp
  | true =>
    have := nameP_len seg; have := charP_len lf; have := charP_len rt
    rw [br_true, F_ref05name_eq]
    simp only [bd_s]
    rw [br_t (by simp; omega), F_ref05char_eq]
    simp only [bd_s]
    rw [br_t (by simp; omega), F_ref05char_eq]
    simp only [bd_s]
    rw [br_t (by simp; omega)]
    simp [partPut]

theorem enc1012 (k : Nat) (o : TOp) (b : Bool) (w : List Int) (hw : w.length ≤ 1000000) (ho : o.2.2.2.2.2.1.length ≤ 64) : L_ref05Encode_1012 (k + 100) o b 1 (w, ()) = some (.brk (w ++ (if b = true then partPut 2 o else []), ())) := by
  obtain ⟨kd, i, t, blk, par, key, seg, lf, rt, tx, cu, fl, u⟩ := o
  dsimp only at ho
  rw [show (1 : Nat) = 0 + 1 from rfl, L_ref05Encode_1012_step]
  cases b with
  | false => simp
  | true =>
    have := nameP_len par; have h2 := textP_len key (by omega)
    rw [br_true, F_ref05name_eq]
    simp only [bd_s]
    rw [br_t (by simp; omega), F_ref01PutText_eq (k + 87) key (by omega) (by omega)]
    simp only [bd_s]
    unfold textP at h2
    rw [br_t (by simp at h2 ⊢; omega)]
    simp [partPut, textP]

theorem enc1015 (k : Nat) (o : TOp) (b : Bool) (w : List Int) (hw : w.length ≤ 1000000) (ho : o.2.2.2.2.2.2.2.2.2.1.length ≤ 64) : L_ref05Encode_1015 (k + 100) o b 1 (w, ()) = some (.brk (w ++ (if b = true then partPut 3 o else []), ())) := by
  obtain ⟨kd, i, t, blk, par, key, seg, lf, rt, tx, cu, fl, u⟩ := o
  dsimp only at ho
  rw [show (1 : Nat) = 0 + 1 from rfl, L_ref05Encode_1015_step]
  cases b with
  | false => simp
  | true =>
    have h2 := textP_len tx (by omega)
    rw [br_true, F_ref01PutText_eq (k + 87) tx (by omega) (by omega)]
    simp only [bd_s]
    unfold textP at h2
    rw [br_t (by simp at h2 ⊢; omega)]
    simp [partPut, textP]

theorem enc_loop (k : Nat) (o : TOp) (w : List Int) (ho : o.2.2.2.2.2.2.2.2.2.2.1.length ≤ 40) (hw : w.length ≤ 1000000) (m : Nat) (hm : o.2.2.2.2.2.2.2.2.2.2.1.length < m) :
    L_ref05Encode_0 (k + 20) o m (w, ((0 : Int), ())) = some (.brk (w ++ (o.2.2.2.2.2.2.2.2.2.2.1.map cutP).flatten, ((o.2.2.2.2.2.2.2.2.2.2.1.length : Int), ()))) := by
  have key := for_run0 (L := fun m i (s : List Int) => L_ref05Encode_0 (k + 20) o m (s, (i, ()))) (l := o.2.2.2.2.2.2.2.2.2.2.1) (R := LO (List Int × (Bool × Unit)) (List Int × (Int × Unit)) Unit)
    (fun s x => .inl (s ++ cutP x)) (fun s => .brk (s, ((o.2.2.2.2.2.2.2.2.2.2.1.length : Int), ()))) (fun i s => s.length ≤ 1000000 + 28 * i)
    (fun m i s h hI => by
      constructor
      · show L_ref05Encode_0 (k + 20) o (m + 1) (s, ((i : Int), ())) = _
        have := nameP_len (o.2.2.2.2.2.2.2.2.2.2.1[i]).1; have := putN_len (o.2.2.2.2.2.2.2.2.2.2.1[i]).2.1; have := putN_len (o.2.2.2.2.2.2.2.2.2.2.1[i]).2.2.1
        rw [L_ref05Encode_0_step, br_t (i_lt h), br_t (i_in h), getD_of h, i_nx (by omega), F_ref05name_eq]
        simp only [bd_s]
        rw [br_t (by simp; omega), br_t (i_in h), F_ref05num_eq]
        simp only [bd_s]
        rw [br_t (by simp; omega), br_t (i_in h), F_ref05num_eq]
        simp only [bd_s]
        rw [br_t (by simp; omega)]
        simp [cutP]
      · intro s' e
        have := cutP_len (o.2.2.2.2.2.2.2.2.2.2.1[i])
        simp only [Sum.inl.injEq] at e
        subst e
        simp <;> omega)
    (fun m s hI => by
      show L_ref05Encode_0 (k + 20) o (m + 1) (s, ((o.2.2.2.2.2.2.2.2.2.2.1.length : Int), ())) = _
      rw [L_ref05Encode_0_step, br_f (i_ge _)])
    m w (by omega) (by simp; omega)
  rw [key, runL_fold]
  simp only [foldl_app]

theorem enc1017 (k : Nat) (o : TOp) (b : Bool) (w : List Int) (hw : w.length ≤ 900000) (ho : o.2.2.2.2.2.2.2.2.2.2.1.length ≤ 40) : L_ref05Encode_1017 (k + 100) o b 1 (w, ()) = some (.brk (w ++ (if b = true then partPut 4 o else []), ())) := by
  rw [show (1 : Nat) = 0 + 1 from rfl, L_ref05Encode_1017_step]
  cases b with
  | false => simp
  | true =>
    have h2 := putN_len (o.2.2.2.2.2.2.2.2.2.2.1.length : Int)
    rw [br_true, F_ref05num_eq]
    simp only [bd_s]
    rw [br_t (by simp; omega), enc_loop (k + 80) o _ ho (by simp; omega) _ (by omega)]
    simp only [bdL_b]
    obtain ⟨kd, i, t, blk, par, key, seg, lf, rt, tx, cu, fl, u⟩ := o
    simp [partPut]

theorem enc1025 (k : Nat) (o : TOp) (b : Bool) (w : List Int) (hw : w.length ≤ 1000000) : L_ref05Encode_1025 (k + 100) o b 1 (w, ()) = some (.brk (w ++ (if b = true then partPut 5 o else []), ())) := by
  obtain ⟨kd, i, t, blk, par, key, seg, lf, rt, tx, cu, fl, u⟩ := o
  rw [show (1 : Nat) = 0 + 1 from rfl, L_ref05Encode_1025_step]
  cases b with
  | false => simp
  | true =>
    rw [br_true, show (1 : Nat) = 0 + 1 from rfl, L_ref05Encode_1027_step]
    have h1 := putN_len 1; have h0 := putN_len 0
    cases fl with
    | true =>
      simp only [br_true, bdL_b]
      rw [F_ref05num_eq]
      simp only [bd_s]
      rw [br_t (by simp; omega)]; rfl
    | false =>
      simp only [br_false, bdL_b]
      rw [F_ref05num_eq]
      simp only [bd_s]
      rw [br_t (by simp; omega)]; rfl

/-- a right op is short -/
theorem enc_short {o : TOp} (h : right o = true) : (enc o).length ≤ 2000 ∧ ∀ p, (partPut p o).length ≤ 600 := by
  obtain ⟨h1, h2, h3⟩ := right_small h
  have hp : ∀ p, (partPut p o).length ≤ 600 := by
    intro p
    obtain ⟨kd, i, t, blk, par, key, seg, lf, rt, tx, cu, fl, u⟩ := o
    dsimp only at h1 h2 h3
    unfold partPut
    dsimp only
    have a1 := nameP_len blk; have a2 := nameP_len seg; have a3 := charP_len lf; have a4 := charP_len rt; have a5 := nameP_len par
    have a6 := textP_len key (by omega); have a7 := textP_len tx (by omega); have a8 := putN_len (cu.length : Int)
    have a9 := putN_len 1; have a11 := putN_len 0
    have a10 : ∀ l : List TCut, (l.map cutP).flatten.length ≤ 28 * l.length := by
      intro l
      induction l with
      | nil => simp
      | cons c l ih => have := cutP_len c; simp at ih ⊢; omega
    have := a10 cu
    repeat' split
    all_goals (try simp only [List.length_append, List.length_nil])
    all_goals omega
  refine ⟨?_, hp⟩
  have b1 := putN_len o.1; have b2 := nameP_len o.2.1; have b3 := putN_len o.2.2.1
  unfold enc
  have : ∀ l : List Int, (l.map fun p => partPut p o).flatten.length ≤ 600 * l.length := by
    intro l
    induction l with
    | nil => simp
    | cons c l ih => have := hp c; simp at ih ⊢; omega
  have := this (parts o.1)
  have := parts_len o.1
  simp only [List.length_append]
  omega

theorem F_ref05Encode_eq (k : Nat) (o : TOp) (hc : o.2.2.2.2.2.2.2.2.2.2.1.length ≤ 1000) : F_ref05Encode (k + 1200) o = some ((if right o = true then enc o else [], (right o, ())), ()) := by
  rw [F_ref05Encode_step, show k + 1199 = k + 99 + 1100 from rfl, F_ref05Right_eq _ _ hc]
  simp only [bd_s]
  cases hr : right o with
  | false => rw [br_t (by rfl)]; rfl
  | true =>
    obtain ⟨h1, h2, h3⟩ := right_small hr
    obtain ⟨_, hp⟩ := enc_short hr
    have b1 := putN_len o.1; have b2 := nameP_len o.2.1; have b3 := putN_len o.2.2.1
    rw [br_f (by rfl), F_ref05num_eq]
    simp only [bd_s]
    rw [F_ref05name_eq]
    simp only [bd_s]
    rw [br_t (by simp; omega), F_ref05num_eq]
    simp only [bd_s]
    rw [br_t (by simp; omega)]
    have hq : ∀ (b : Bool) (p : Int), (if b = true then partPut p o else []).length ≤ 600 := by
      intro b p
      cases b with
      | true => exact hp p
      | false => simp
    rw [show k + 99 + 1100 = k + 1099 + 100 from rfl]
    rw [enc1006 _ _ _ _ (by simp; omega)]
    simp only [bdL_b]
    have q0 := hq (cond (o.1 == 2) true (o.1 == 6)) 0
    rw [enc1008 _ _ _ _ (by simp only [List.length_append]; omega)]
    simp only [bdL_b]
    have q1 := hq (cond (o.1 == 3) true (o.1 == 5)) 1
    rw [enc1012 _ _ _ _ (by simp only [List.length_append]; omega) (by omega)]
    simp only [bdL_b]
    have q2 := hq (cond (cond (o.1 == 1) true (o.1 == 2)) true (o.1 == 5)) 2
    rw [enc1015 _ _ _ _ (by simp only [List.length_append]; omega) (by omega)]
    simp only [bdL_b]
    have q3 := hq (o.1 == 3) 3
    rw [enc1017 _ _ _ _ (by simp only [List.length_append]; omega) (by omega)]
    simp only [bdL_b]
    have q4 := hq (o.1 == 4) 4
    rw [enc1025 _ _ _ _ (by simp only [List.length_append]; omega)]
    simp only [bdL_b]
    unfold enc
    rcases parts_cases o.1 with ⟨e, hpp⟩ | ⟨e, hpp⟩ | ⟨e, hpp⟩ | ⟨e, hpp⟩ | ⟨e, hpp⟩ | ⟨e, hpp⟩ | hpp
    · rw [hpp, e]; simp
    · rw [hpp, e]; simp
    · rw [hpp, e]; simp
    · rw [hpp, e]; simp
    · rw [hpp, e]; simp
    · rw [hpp, e]; simp
    · exfalso; unfold right at hr; simp [hpp] at hr

end Go.Proofs.YtkfikongenapfaaDoor.E

namespace Go.Proofs.YtkfikongenapfaaDoor.E
open Go
set_option linter.unusedSimpArgs false
set_option linter.unusedVariables false
/-! the document's op out of bytes -/
theorem num_ge {c : Cur} {lim : Int} (h : Fit c) : 0 ≤ (numC c lim).1 := num_nonneg h lim

end Go.Proofs.YtkfikongenapfaaDoor.E

namespace Go.Proofs.YtkfikongenapfaaDoor.E
open Go
set_option linter.unusedSimpArgs false
set_option linter.unusedVariables false
/-! rows of ops, as bytes and back -/
def allG : Nat → Cur → Option (List TOp × Cur)
  | 0, c => some ([], c)
  | n + 1, c => if (dec (nums (textC c great).1)).2.1 = true then (match allG n (textC c great).2 with | some (l, d) => some ((dec (nums (textC c great).1)).1 :: l, d) | none => none) else none

def decAll (b : List Int) : List TOp × (Bool × Unit) :=
  match allG (numC (b, (false, ())) 1048576).1.toNat (numC (b, (false, ())) 1048576).2 with
  | some (l, c) => if ended c = true then (l, (true, ())) else ([], (false, ()))
  | none => ([], (false, ()))

def encAll (l : List TOp) : List Int := putN l.length ++ (l.map fun o => textP (txt (enc o))).flatten

theorem dec_nil : (dec []).2.1 = false := by
  cases h : (dec []).2.1 with
  | false => rfl
  | true =>
    obtain ⟨h1, h2⟩ := dec_only (b := []) (by intro x hx; simp at hx) h
    exact absurd h2.symm (enc_ne h1)

theorem take_len (c : Cur) (n : Int) : (takeC c n).1.length ≤ c.1.length ∧ ((takeC c n).1 ≠ [] → (takeC c n).2.2.1.length < c.1.length) := by
  unfold takeC
  split
  · simp
  · rename_i h
    simp only [not_or, gt_iff_lt, Int.not_lt] at h
    obtain ⟨_, h1, h2⟩ := h
    refine ⟨by simp <;> omega, fun hn => ?_⟩
    have : 0 < (c.1.take n.toNat).length := List.length_pos_iff.2 hn
    simp at this ⊢
    omega

theorem text_len (c : Cur) : (textC c great).1.length ≤ c.1.length ∧ ((textC c great).1 ≠ [] → (textC c great).2.1.length < c.1.length) := by
  have h1 := len_num c great
  have h2 := take_len (numC c great).2 (numC c great).1
  unfold textC txt
  refine ⟨?_, fun hn => ?_⟩
  · simp only [List.length_map]; omega
  · have : (takeC (numC c great).2 (numC c great).1).1 ≠ [] := fun e => hn (by simp only [e]; rfl)
    have := h2.2 this
    simp only; omega

theorem dec_all_run (k : Nat) : ∀ (m n : Nat) (c : Cur) (out : List TOp), n ≤ 1048576 → Fine c → c.1.length + 1 < m → out.length + c.1.length ≤ 1000000 →
    (∃ l d, allG n c = some (l, d) ∧ L_opDecodeAll_0 (k + 1300) () m ([], (false, (out, ((n : Int), ((c, ()), ()))))) = some (.brk ([], (false, (out ++ l, (0, ((d, ()), ()))))))) ∨
    (allG n c = none ∧ ∃ s, L_opDecodeAll_0 (k + 1300) () m ([], (false, (out, ((n : Int), ((c, ()), ()))))) = some (.ret ([], (false, ())) s))
  | 0, n, c, out, _, _, h, _ => by omega
  | m + 1, 0, c, out, h0, h1, h2, h3 => by
    rw [L_opDecodeAll_0_step, br_f (by simp)]
    exact .inl ⟨[], c, rfl, by simp⟩
  | m + 1, n + 1, c, out, h0, h1, h2, h3 => by
    rw [L_opDecodeAll_0_step, br_t (by simp <;> omega), F_numCursorText_F _ _ h1]
    simp only [bd_s]
    have ht := text_len c
    have hd := F_opDecode_eq (k + 100) (nums (textC c great).1) (nums_byt _) (by have := h1.2; simp [nums]; omega)
    rw [show k + 100 + 1200 = k + 1300 from rfl] at hd
    unfold nums at hd
    rw [hd]
    simp only [bd_s]
    rw [show (List.map (fun c : UInt8 => ((c.toNat : Nat) : Int)) (textC c great).1) = nums (textC c great).1 from rfl]
    cases hdec : (dec (nums (textC c great).1)).2.1 with
    | false =>
      rw [br_t (by rfl)]
      exact .inr ⟨by simp [allG, hdec], _, rfl⟩
    | true =>
      have hne : (textC c great).1 ≠ [] := by
        intro e
        rw [e] at hdec
        have : (dec []).2.1 = true := hdec
        rw [dec_nil] at this; cases this
      have hlt := ht.2 hne
      rw [br_f (by rfl), br_t (by simp; omega), IntWalk.i64_in _ ⟨by omega, by omega⟩]
      have := dec_all_run k m n (textC c great).2 (out ++ [(dec (nums (textC c great).1)).1]) (by omega) (fine_text h1 _) (by omega) (by simp; omega)
      rw [show (((n + 1 : Nat) : Int) - 1) = ((n : Nat) : Int) by omega]
      rcases this with ⟨l, d, e1, e2⟩ | ⟨e1, s, e2⟩
      · exact .inl ⟨(dec (nums (textC c great).1)).1 :: l, d, by simp [allG, hdec, e1], by rw [e2]; simp⟩
      · exact .inr ⟨by simp [allG, hdec, e1], s, e2⟩

theorem F_opDecodeAll_eq (k : Nat) (b : List Int) (hb : Byt b) (hl : b.length ≤ 500000) (hk : b.length < k) : F_opDecodeAll (k + 1302) b = some (decAll b, ()) := by
  have h0 := fine_of hb (by omega)
  rw [F_opDecodeAll_step, F_numAt_eq _ _ (by omega)]
  simp only [bd_s]
  rw [F_numCursorNum_F _ _ h0]
  simp only [bd_s]
  unfold decAll
  have hf := fine_num h0 1048576
  have hle := num_le h0.1 (lim := 1048576) (by omega)
  have hge := num_ge (lim := 1048576) h0.1
  have hln := len_num (b, (false, ())) 1048576
  dsimp only at hln
  generalize numC (b, (false, ())) 1048576 = z at *
  have e : ((z.1.toNat : Nat) : Int) = z.1 := by omega
  have := dec_all_run (k + 1) (k + 1301) z.1.toNat z.2 [] (by omega) hf (by omega) (by simp; omega)
  rw [e] at this
  rcases this with ⟨l, d, e1, e2⟩ | ⟨e1, s, e2⟩
  · rw [e2]
    simp only [bdL_b, e1]
    rw [F_numCursorEnd_eq]
    simp only [bd_s]
    show br (!ended d) _ _ = _
    cases ended d <;> rfl
  · rw [e2]
    simp only [bdL_r, e1]

/-! there and back -/
theorem txt_enc_len {o : TOp} (h : right o = true) : (txt (enc o)).length ≤ 2000 := by
  have := (enc_short h).1
  simp [txt]; omega

theorem allG_back : ∀ (l : List TOp), l.all right = true → ∀ rest : List Int, allG l.length ((l.map fun o => textP (txt (enc o))).flatten ++ rest, (false, ())) = some (l, (rest, (false, ())))
  | [], _, rest => by simp [allG]
  | o :: l, h, rest => by
    simp only [List.all_cons, Bool.and_eq_true] at h
    have hb := textP_back (txt (enc o)) (by have := txt_enc_len h.1; omega) ((l.map fun o => textP (txt (enc o))).flatten ++ rest)
    simp only [List.length_cons, allG, List.map_cons, List.flatten_cons, List.append_assoc]
    rw [hb]
    simp only
    rw [nums_txt (enc_byt (small_of_right h.1)), dec_enc h.1, allG_back l h.2 rest]
    rfl

theorem decAll_back {l : List TOp} (hl : l.length ≤ 1048576) (h : l.all right = true) (rest : List Int) : decAll (encAll l ++ rest) = if rest = [] then (l, (true, ())) else ([], (false, ())) := by
  unfold decAll encAll
  rw [List.append_assoc, num_back (l.length : Int) ⟨by omega, by omega⟩ _ 1048576 (by omega)]
  simp only [Int.toNat_natCast]
  rw [allG_back l h rest]
  simp only [ended]
  cases rest <;> simp

theorem allG_only : ∀ (n : Nat) (b : List Int) (l : List TOp) (d : Cur), Byt b → allG n (b, (false, ())) = some (l, d) → l.length = n ∧ l.all right = true ∧ ∃ rest, d = (rest, (false, ())) ∧ b = (l.map fun o => textP (txt (enc o))).flatten ++ rest
  | 0, b, l, d, hb, h => by
    simp only [allG, Option.some.injEq, Prod.mk.injEq] at h
    obtain ⟨rfl, rfl⟩ := h
    exact ⟨rfl, rfl, b, rfl, by simp⟩
  | n + 1, b, l, d, hb, h => by
    unfold allG at h
    split at h
    · rename_i hdec
      have hl : (textC (b, (false, ())) great).2.2.1 = false := by
        cases hc : (textC (b, (false, ())) great).2.2.1 with
        | false => rfl
        | true =>
          rw [text_no hc] at hdec
          have : (dec []).2.1 = true := hdec
          rw [dec_nil] at this; cases this
      obtain ⟨r, e1, e2⟩ := text_only b hb hl
      simp only at e1 e2
      rw [e1] at h
      have hr : Byt r := byt_drop (e2 ▸ hb)
      obtain ⟨h1, h2⟩ := dec_only (nums_byt _) hdec
      cases hg : allG n (r, (false, ())) with
      | none => rw [hg] at h; simp at h
      | some z =>
        obtain ⟨l', d'⟩ := z
        rw [hg] at h
        simp only [Option.some.injEq, Prod.mk.injEq] at h
        obtain ⟨rfl, rfl⟩ := h
        obtain ⟨i1, i2, rest, i3, i4⟩ := allG_only n r l' d' hr hg
        refine ⟨by simp [i1], by simp [i2, h1], rest, i3, ?_⟩
        simp only [List.map_cons, List.flatten_cons, List.append_assoc]
        rw [← i4, ← h2]
        have : txt (nums (textC (b, (false, ())) great).1) = (textC (b, (false, ())) great).1 := by
          unfold txt nums
          rw [List.map_map]
          conv => rhs; rw [← List.map_id (textC (b, (false, ())) great).1]
          apply List.map_congr_left
          intro x _
          simp
        rw [this]
        exact e2
    · simp at h

theorem decAll_only {b : List Int} (hb : Byt b) (h : (decAll b).2.1 = true) : (decAll b).1.all right = true ∧ (decAll b).1.length ≤ 1048576 ∧ b = encAll (decAll b).1 := by
  unfold decAll at h ⊢
  cases hg : allG (numC (b, (false, ())) 1048576).1.toNat (numC (b, (false, ())) 1048576).2 with
  | none => rw [hg] at h; simp at h
  | some z =>
    obtain ⟨l, d⟩ := z
    rw [hg] at h
    simp only at h ⊢
    cases he : ended d with
    | false => rw [he] at h; simp at h
    | true =>
      simp only [if_true]
      have hnl : (numC (b, (false, ())) 1048576).2.2.1 = false := by
        cases hc : (numC (b, (false, ())) 1048576).2.2.1 with
        | false => rfl
        | true =>
          exfalso
          have hf := fit_num (fit0 hb) 1048576
          generalize (numC (b, (false, ())) 1048576).1.toNat = n at *
          generalize (numC (b, (false, ())) 1048576).2 = c at *
          cases n with
          | zero =>
            simp only [allG, Option.some.injEq, Prod.mk.injEq] at hg
            rw [← hg.2] at he
            simp [ended, hc] at he
          | succ n =>
            unfold allG at hg
            rw [text_lost0 hf hc] at hg
            have : (dec (nums [])).2.1 = false := dec_nil
            simp [this] at hg
      obtain ⟨r, e1, e2⟩ := num_only 1048576 (by decide) b hb hnl
      simp only at e1 e2
      have hge := num_ge (lim := 1048576) (fit0 hb)
      have hle := num_le (fit0 hb) (lim := 1048576) (by omega)
      rw [e1] at hg
      have hr : Byt r := byt_drop (e2 ▸ hb)
      obtain ⟨i1, i2, rest, i3, i4⟩ := allG_only _ r l d hr hg
      refine ⟨i2, by omega, ?_⟩
      subst i3
      simp only [ended, Bool.and_eq_true, Bool.not_eq_true', decide_eq_true_eq] at he
      rw [List.length_eq_zero_iff.1 he.2, List.append_nil] at i4
      unfold encAll
      rw [← i4, i1]
      rw [show (((numC (b, (false, ())) 1048576).1.toNat : Nat) : Int) = (numC (b, (false, ())) 1048576).1 by omega]
      exact e2

theorem decAll_cut {l : List TOp} (hl : l.length ≤ 1048576) (h : l.all right = true) {n : Nat} (hn : n < (encAll l).length) (hb : Byt (encAll l)) : (decAll ((encAll l).take n)).2.1 = false := by
  cases hc : (decAll ((encAll l).take n)).2.1 with
  | false => rfl
  | true =>
    obtain ⟨h1, h2, h3⟩ := decAll_only (Byt.take hb n) hc
    have e : encAll l = encAll (decAll ((encAll l).take n)).1 ++ (encAll l).drop n := by rw [← h3, List.take_append_drop]
    have hd : (encAll l).drop n ≠ [] := by
      intro e
      have := congrArg List.length e
      simp at this; omega
    have b1 := decAll_back hl h []
    have b2 := decAll_back h2 h1 ((encAll l).drop n)
    rw [← e, if_neg hd] at b2
    rw [List.append_nil, if_pos rfl, b2] at b1
    simp at b1

theorem encAll_len {l : List TOp} (h : l.all right = true) : (encAll l).length ≤ 7 + 2007 * l.length := by
  unfold encAll
  have := putN_len (l.length : Int)
  have key : ∀ l : List TOp, l.all right = true → (l.map fun o => textP (txt (enc o))).flatten.length ≤ 2007 * l.length := by
    intro l
    induction l with
    | nil => intro _; simp
    | cons o l ih =>
      intro h
      simp only [List.all_cons, Bool.and_eq_true] at h
      have h1 := txt_enc_len h.1
      have h2 := textP_len (txt (enc o)) (by omega)
      have := ih h.2
      simp only [List.map_cons, List.flatten_cons, List.length_append, List.length_cons]
      omega
  have := key l h
  simp only [List.length_append]
  omega

theorem encAll_byt {l : List TOp} (h : l.all right = true) : Byt (encAll l) :=
  Byt.append (putN_byt _) (flat_byt fun x hx => by
    obtain ⟨o, ho, rfl⟩ := List.mem_map.1 hx
    exact textP_byt _ (by have := txt_enc_len (List.all_eq_true.1 h o ho); omega))

/-! the loops -/
theorem enc_run {S : Type} (g : List Int → S) : ∀ (l : List TOp) (w : List Int),
    (l.all right = true → runL (fun s o => if right o = true then Sum.inl (s ++ textP (txt (enc o))) else Sum.inr (g s)) w l = .inl (w ++ (l.map fun o => textP (txt (enc o))).flatten)) ∧
    (l.all right = false → ∃ s, runL (fun s o => if right o = true then Sum.inl (s ++ textP (txt (enc o))) else Sum.inr (g s)) w l = .inr (g s))
  | [], w => ⟨fun _ => by simp [runL], fun h => by simp at h⟩
  | o :: l, w => by
    cases ho : right o with
    | false => exact ⟨fun h => by simp [ho] at h, fun _ => ⟨w, by simp [runL, ho]⟩⟩
    | true =>
      obtain ⟨i1, i2⟩ := enc_run g l (w ++ textP (txt (enc o)))
      refine ⟨fun h => ?_, fun h => ?_⟩
      · simp only [List.all_cons, ho, Bool.true_and] at h
        simp only [runL, ho, if_true]
        rw [i1 h]; simp
      · simp only [List.all_cons, ho, Bool.true_and] at h
        simp only [runL, ho, if_true]
        exact i2 h

theorem F_opEncodeAll_eq (k : Nat) (l : List TOp) (hl : l.length ≤ 10000) (hk : l.length < k) : F_opEncodeAll (k + 1300) l = some ((if l.all right = true then encAll l else [], (l.all right, ())), ()) := by
  rw [F_opEncodeAll_step, F_opwriternums_eq (k + 1286) [] [((l.length : Nat) : Int)] (by simp) (by simp)]
  simp only [bd_s]
  have h7 := putN_len (l.length : Int)
  have key := for_run0 (L := fun m i (s : List Int) => L_opEncodeAll_0 (k + 1299) () l (l.length : Int) m ([], (false, (i, ((s, ()), ()))))) (l := l) (R := LO (List Int × (Bool × Unit)) (List Int × (Bool × (Int × ((List Int × Unit) × Unit)))) ((List Int × Unit) × Unit))
    (fun s o => if right o = true then Sum.inl (s ++ textP (txt (enc o))) else Sum.inr (.ret ([], (false, ())) ((s, ()), ()))) (fun s => .brk ([], (false, ((l.length : Int), ((s, ()), ()))))) (fun i s => s.length ≤ 7 + 2007 * i)
    (fun m i s h hI => by
      have hT : L_opEncodeAll_0 (k + 1299) () l (l.length : Int) (m + 1) ([], (false, ((i : Int), ((s, ()), ())))) = if right l[i] = true then L_opEncodeAll_0 (k + 1299) () l (l.length : Int) m ([], (false, (((i + 1 : Nat) : Int), ((s ++ textP (txt (enc l[i])), ()), ())))) else some (.ret ([], (false, ())) ((s, ()), ())) := by
        rw [L_opEncodeAll_0_step, br_t (i_lt h), br_t (i_in h), getD_of h, i_nx (by omega), show k + 1299 = k + 99 + 1200 from rfl, F_opEncode_eq]
        simp only [bd_s]
        cases ho : right l[i] with
        | false => rw [br_t (by rfl)]; rfl
        | true =>
          have := txt_enc_len ho
          have hw := F_opwritertext_eq (k + 1285) s (txt (enc l[i])) (by omega) (by omega)
          rw [br_f (by rfl), if_pos rfl, if_pos rfl]
          rw [show k + 99 + 1200 = k + 1285 + 14 from rfl]
          unfold txt at hw ⊢
          rw [hw]; rfl
      constructor
      · show L_opEncodeAll_0 (k + 1299) () l (l.length : Int) (m + 1) ([], (false, ((i : Int), ((s, ()), ())))) = _
        rw [hT]
        cases ho : right l[i] <;> simp
      · intro s' e
        cases ho : right l[i] with
        | false => simp [ho] at e
        | true =>
          simp only [ho, if_true, Sum.inl.injEq] at e
          subst e
          have h1 := txt_enc_len ho
          have h2 := textP_len (txt (enc l[i])) (by omega)
          simp only [List.length_append]; omega)
    (fun m s hI => by
      show L_opEncodeAll_0 (k + 1299) () l (l.length : Int) (m + 1) ([], (false, ((l.length : Int), ((s, ()), ())))) = _
      rw [L_opEncodeAll_0_step, br_f (i_ge _)])
    (k + 1299) (putN l.length) (by omega) (by omega)
  simp only [List.nil_append, List.map_cons, List.map_nil, List.flatten_cons, List.flatten_nil, List.append_nil]
  rw [key]
  have hr := enc_run (fun s => (LO.ret ([], (false, ())) ((s, ()), ()) : LO (List Int × (Bool × Unit)) (List Int × (Bool × (Int × ((List Int × Unit) × Unit)))) ((List Int × Unit) × Unit))) l (putN l.length)
  cases hall : l.all right with
  | true =>
    rw [hr.1 hall]
    simp only [bdL_b]; rfl
  | false =>
    obtain ⟨s, e⟩ := hr.2 hall
    rw [e]
    simp only [bdL_r]; rfl

theorem F_ref05EncodeAll_eq (k : Nat) (l : List TOp) (hl : l.length ≤ 10000) (hk : l.length < k) (hc : ∀ o ∈ l, o.2.2.2.2.2.2.2.2.2.2.1.length ≤ 1000) : F_ref05EncodeAll (k + 5000) l = some ((if l.all right = true then encAll l else [], (l.all right, ())), ()) := by
  rw [F_ref05EncodeAll_step, F_ref05num_eq (k + 4986)]
  simp only [bd_s]
  have h7 := putN_len (l.length : Int)
  have key := for_run0 (L := fun m i (s : List Int) => L_ref05EncodeAll_0 (k + 4999) l m ([], (false, (s, (i, ()))))) (l := l) (R := LO (List Int × (Bool × Unit)) (List Int × (Bool × (List Int × (Int × Unit)))) Unit)
    (fun s o => if right o = true then Sum.inl (s ++ textP (txt (enc o))) else Sum.inr (.ret ([], (false, ())) ())) (fun s => .brk ([], (false, (s, ((l.length : Int), ()))))) (fun i s => s.length ≤ 7 + 2007 * i)
    (fun m i s h hI => by
      have hT : L_ref05EncodeAll_0 (k + 4999) l (m + 1) ([], (false, (s, ((i : Int), ())))) = if right l[i] = true then L_ref05EncodeAll_0 (k + 4999) l m ([], (false, (s ++ textP (txt (enc l[i])), (((i + 1 : Nat) : Int), ())))) else some (.ret ([], (false, ())) ()) := by
        rw [L_ref05EncodeAll_0_step, br_t (i_lt h), br_t (i_in h), getD_of h, i_nx (by omega), show k + 4999 = k + 3799 + 1200 from rfl, F_ref05Encode_eq _ _ (hc _ (List.getElem_mem h))]
        simp only [bd_s]
        cases ho : right l[i] with
        | false => rw [br_t (by rfl)]; rfl
        | true =>
          have h1 := txt_enc_len ho
          have h2 := textP_len (txt (enc l[i])) (by omega)
          have hw := F_ref01PutText_eq (k + 4986) (txt (enc l[i])) (by omega) (by omega)
          rw [br_f (by rfl), if_pos rfl, if_pos rfl]
          rw [show k + 3799 + 1200 = k + 4986 + 13 from rfl]
          unfold txt at hw
          rw [hw]
          simp only [bd_s]
          rw [br_t]
          · rfl
          · have h3 := (enc_short ho).1
            unfold textP txt at h2
            simp at h2 ⊢; omega
      constructor
      · show L_ref05EncodeAll_0 (k + 4999) l (m + 1) ([], (false, (s, ((i : Int), ())))) = _
        rw [hT]
        cases ho : right l[i] <;> simp
      · intro s' e
        cases ho : right l[i] with
        | false => simp [ho] at e
        | true =>
          simp only [ho, if_true, Sum.inl.injEq] at e
          subst e
          have h1 := txt_enc_len ho
          have h2 := textP_len (txt (enc l[i])) (by omega)
          simp only [List.length_append]; omega)
    (fun m s hI => by
      show L_ref05EncodeAll_0 (k + 4999) l (m + 1) ([], (false, (s, ((l.length : Int), ())))) = _
      rw [L_ref05EncodeAll_0_step, br_f (i_ge _)])
    (k + 4999) (putN l.length) (by omega) (by omega)
  rw [key]
  have hr := enc_run (fun s => (LO.ret ([], (false, ())) () : LO (List Int × (Bool × Unit)) (List Int × (Bool × (List Int × (Int × Unit)))) Unit)) l (putN l.length)
  cases hall : l.all right with
  | true =>
    rw [hr.1 hall]
    simp only [bdL_b]; rfl
  | false =>
    obtain ⟨s, e⟩ := hr.2 hall
    rw [e]
    simp only [bdL_r]; rfl

theorem F_ref00SameOps_eq (k : Nat) (a b : List TOp) (hk : a.length = b.length → a.length < k ∧ a.length ≤ 4611686018427387903) (hc : ∀ o ∈ a, o.2.2.2.2.2.2.2.2.2.2.1.length < k ∧ o.2.2.2.2.2.2.2.2.2.2.1.length ≤ 4611686018427387903) :
    F_ref00SameOps (k + 2) a b = some ((decide (a = b), ()), ()) := by
  rw [F_ref00SameOps_step]
  by_cases hl : a.length = b.length
  · obtain ⟨h1, h2⟩ := hk hl
    rw [br_f (by simp [hl])]
    have key : ∀ (m i : Nat), i ≤ a.length → a.length - i < m →
        ((∃ x, L_ref00SameOps_0 (k + 1) a b m (false, ((i : Int), ())) = some (.brk x)) ∧ a.drop i = b.drop i) ∨
        (L_ref00SameOps_0 (k + 1) a b m (false, ((i : Int), ())) = some (.ret (false, ()) ()) ∧ a.drop i ≠ b.drop i) := by
      intro m
      induction m with
      | zero => intro i _ h; omega
      | succ m ih =>
        intro i h3 h4
        rw [L_ref00SameOps_0_step]
        by_cases h : i < a.length
        · rw [br_t (i_lt h), br_t (i_in h), br_t (i_in (by omega)), getD_of h, getD_of (l := b) (by omega), i_nx (by omega), List.drop_eq_getElem_cons h, List.drop_eq_getElem_cons (l := b) (by omega)]
          rw [F_ref00SameOp_eq _ _ _ (fun _ => hc _ (List.getElem_mem h))]
          simp only [bd_s]
          by_cases he : a[i] = b[i]'(by omega)
          · rw [br_f (by simp [he])]
            rcases ih (i + 1) (by omega) (by omega) with ⟨x, e⟩ | ⟨x, e⟩
            · exact .inl ⟨x, by rw [he, e]⟩
            · exact .inr ⟨x, fun e' => e (List.cons.inj e').2⟩
          · rw [br_t (by simp [he])]
            exact .inr ⟨rfl, by intro e; exact he (List.cons.inj e).1⟩
        · have : i = a.length := by omega
          subst this
          rw [br_f (i_ge _)]
          refine .inl ⟨⟨_, rfl⟩, ?_⟩
          rw [List.drop_eq_nil_of_le (Nat.le_refl _), List.drop_eq_nil_of_le (by omega)]
    rcases key (k + 1) 0 (by omega) (by omega) with ⟨⟨x, e⟩, e2⟩ | ⟨e, e2⟩
    · rw [show ((0 : Nat) : Int) = 0 from rfl] at e
      rw [e]
      simp at e2
      simp [e2]
    · rw [show ((0 : Nat) : Int) = 0 from rfl] at e
      rw [e]
      simp at e2
      simp [e2]
  · rw [br_t (by simp; omega)]
    have : a ≠ b := fun e => hl (by rw [e])
    simp [this]

end Go.Proofs.YtkfikongenapfaaDoor.E

namespace Go.Proofs.YtkfikongenapfaaDoor.E
open Go
set_option linter.unusedSimpArgs false
set_option linter.unusedVariables false
theorem F_law05OpLists_eq (k : Nat) (l : List TOp) (n : Int) : F_law05OpLists (k + 200000) l n = some ((true, ()), ()) := by
  rw [F_law05OpLists_step, show k + 199999 = k + 198699 + 1300 from rfl, F_law05alive_eq]
  simp only [bd_s]
  rw [br_f (by rfl), show k + 198699 + 1300 = k + 199998 + 1 from rfl, F_ref00Long_eq _ _ _ (fun h => ⟨by omega, by omega⟩)]
  simp only [bd_s]
  cases hlong : (decide ((l.length : Int) > 60) || l.any longOp) with
  | true => rw [br_t (by rfl)]
  | false =>
    rw [br_f (by rfl)]
    simp only [Bool.or_eq_false_iff, decide_eq_false_iff_not] at hlong
    obtain ⟨hlen, hany⟩ := hlong
    have hc : ∀ o ∈ l, o.2.2.2.2.2.2.2.2.2.2.1.length ≤ 40 := fun o ho => (long_small (by
      cases h : longOp o with
      | false => rfl
      | true => rw [List.any_eq_false] at hany; exact absurd h (by simpa using hany o ho))).2
    rw [show k + 199998 + 1 = k + 198699 + 1300 from rfl, F_opEncodeAll_eq _ _ (by omega) (by omega)]
    simp only [bd_s]
    rw [show k + 198699 + 1300 = k + 194999 + 5000 from rfl, F_ref05EncodeAll_eq _ _ (by omega) (by omega) (fun o ho => by have := hc o ho; omega)]
    simp only [bd_s]
    have hx : (if l.all right = true then encAll l else []).length ≤ 150000 := by
      cases h : l.all right with
      | false => simp
      | true =>
        have := encAll_len h
        simp; omega
    rw [show k + 194999 + 5000 = k + 199998 + 1 from rfl, F_ref00SameBytes_eq _ _ _ (by omega) (by omega)]
    simp only [bd_s]
    rw [br_f (by simp)]
    cases h : l.all right with
    | false => rw [br_t (by rfl)]
    | true =>
      rw [br_f (by rfl)]
      simp only [if_true]
      have hlen2 := encAll_len h
      have hbyt := encAll_byt h
      rw [show k + 199998 + 1 = k + 198697 + 1302 from rfl, F_opDecodeAll_eq _ _ hbyt (by omega) (by omega)]
      simp only [bd_s]
      have hback := decAll_back (l := l) (by omega) h []
      rw [List.append_nil, if_pos rfl] at hback
      rw [hback]
      rw [br_f (by rfl), show k + 198697 + 1302 = k + 199997 + 2 from rfl, F_ref00SameOps_eq _ _ _ (fun _ => ⟨by omega, by omega⟩) (fun o ho => by have := hc o ho; omega)]
      simp only [bd_s]
      rw [br_f (by simp)]
      by_cases hn : n < 0 ∨ n ≥ ((encAll l).length : Int)
      · rw [br_t]
        rcases hn with hn | hn
        · simp [hn]
        · simp [hn]
      · have h1 : 0 ≤ n := by omega
        have h2 : n < ((encAll l).length : Int) := by omega
        rw [br_f (by simp; omega), br_t (by simp only [Bool.true_and, Bool.and_true]; exact leB_t ⟨by omega, by omega⟩)]
        simp only [List.drop_zero, Nat.sub_zero]
        rw [show k + 199997 + 2 = k + 198697 + 1302 from rfl, F_opDecodeAll_eq _ _ (Byt.take hbyt _) (by simp; omega) (by simp; omega)]
        simp only [bd_s]
        rw [decAll_cut (by omega) h (by omega) hbyt]; rfl

end Go.Proofs.YtkfikongenapfaaDoor.E

namespace Go.Proofs.YtkfikongenapfaaDoor.E
open Go Go.Proofs
theorem prim_ok : PrimOk Tryd.prog E0 := fun f dst svs σ σ' sv h => by cases h

theorem fn_ok (k : Nat) : FnOk Tryd.prog E0 (fnE E0 k) := mkEnv_ok (by kernel_rfl) prim_ok (by kernel_rfl) (by kernel_rfl) k

end Go.Proofs.YtkfikongenapfaaDoor.E

