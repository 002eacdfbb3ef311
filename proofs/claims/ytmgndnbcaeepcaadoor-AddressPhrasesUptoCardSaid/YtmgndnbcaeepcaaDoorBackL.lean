/-
  AddressBack, AddressPhrases: the plain laws.
-/
import Derived.Test.YtmgndnbcaeepcaaDoorRDotL
namespace Go.Proofs.YtmgndnbcaeepcaaDoor.Ad
open Go.Proofs.YtmgndnbcaeepcaaDoor
set_option linter.unusedVariables false
set_option linter.unusedSimpArgs false

theorem splitL_mem (c : UInt8) : ∀ (l : List UInt8) (x : UInt8), x ∈ l → x = c ∨ ∃ p ∈ Spl.splitL c l, x ∈ p
  | [], x, h => by simp at h
  | y :: t, x, h => by
    by_cases hy : y = c
    · rw [show Spl.splitL c (y :: t) = [] :: Spl.splitL c t by show (if y = c then _ else _) = _; rw [if_pos hy]]
      rcases List.mem_cons.1 h with rfl | h
      · exact .inl hy
      · rcases splitL_mem c t x h with h | ⟨p, hp, hx⟩
        · exact .inl h
        · exact .inr ⟨p, by simp [hp], hx⟩
    · cases hs : Spl.splitL c t with
      | nil => exact absurd hs (Spl.splitL_ne c t)
      | cons q r =>
        rw [show Spl.splitL c (y :: t) = (y :: q) :: r by show (if y = c then _ else match Spl.splitL c t with | [] => [[y]] | h :: r => (y :: h) :: r) = _; rw [if_neg hy, hs]]
        rcases List.mem_cons.1 h with rfl | h
        · exact .inr ⟨x :: q, by simp, by simp⟩
        · rcases splitL_mem c t x h with h | ⟨p, hp, hx⟩
          · exact .inl h
          · rw [hs] at hp
            rcases List.mem_cons.1 hp with rfl | hp
            · exact .inr ⟨y :: p, by simp, by simp [hx]⟩
            · exact .inr ⟨p, by simp [hp], hx⟩
theorem dotted_bytes {lab : Bool} {s : List UInt8} (h : dottedP (isP lab) s = true) : ∀ c ∈ s, c = 46 ∨ okC lab c = true := by
  intro c hc
  unfold dottedP at h
  rw [Bool.and_eq_true, List.all_eq_true] at h
  rcases splitL_mem 46 s c hc with h1 | ⟨p, hp, hx⟩
  · exact .inl h1
  · right
    cases hk : okC lab c with
    | true => rfl
    | false => have := h.1 p hp; rw [isP_no hx hk] at this; cases this
theorem dotted_short {is : List UInt8 → Bool} {s : List UInt8} (h : dottedP is s = true) : s.length ≤ 64 := by
  unfold dottedP at h
  rw [Bool.and_eq_true] at h
  exact of_decide_eq_true h.2
theorem dotted_some {lab : Bool} {s : List UInt8} (h : dottedP (isP lab) s = true) : s ≠ [] := by
  rintro rfl
  cases lab <;> simp [dottedP, Spl.splitL, isP, atomP, labelP] at h
theorem good_parts {l d : List UInt8} (h : goodP l d = true) : dottedP (isP false) l = true ∧ dottedP (isP true) d = true := by
  unfold goodP at h
  rw [Bool.and_eq_true] at h
  exact h
/-- A byte of an address's text. -/
def okB (c : UInt8) : Bool := decide (c.toNat < 128 ∧ c ≠ 44 ∧ c ≠ 32 ∧ c ≠ 9)
theorem okB_all : (List.range 256).all (fun n => (!(isAt (UInt8.ofNat n)) || (okB (UInt8.ofNat n) && UInt8.ofNat n != 64)) && (!(isLet (UInt8.ofNat n)) || (okB (UInt8.ofNat n) && UInt8.ofNat n != 64))) = true := by decide +kernel
theorem okB_at {c : UInt8} : (isAt c = true → okB c = true ∧ c ≠ 64) ∧ (isLet c = true → okB c = true ∧ c ≠ 64) := by
  have h := List.all_eq_true.1 okB_all c.toNat (List.mem_range.2 c.toNat_lt)
  rw [UInt8.ofNat_toNat] at h
  rw [Bool.and_eq_true] at h
  constructor
  · intro h2
    have := h.1
    rw [h2] at this
    simpa using this
  · intro h2
    have := h.2
    rw [h2] at this
    simpa using this
theorem okC_B {lab : Bool} {c : UInt8} (h : c = 46 ∨ okC lab c = true) : okB c = true ∧ c ≠ 64 := by
  rcases h with rfl | h
  · exact ⟨by decide, by decide⟩
  · unfold okC at h
    cases lab with
    | true =>
      rw [if_pos rfl, Bool.or_eq_true] at h
      rcases h with h | h
      · exact okB_at.2 h
      · rw [beq_iff_eq] at h; subst h; exact ⟨by decide, by decide⟩
    | false => rw [if_neg (by simp)] at h; exact okB_at.1 h
theorem good_bytes {l d : List UInt8} (h : goodP l d = true) : (∀ c ∈ l, okB c = true ∧ c ≠ 64) ∧ (∀ c ∈ d, okB c = true ∧ c ≠ 64) :=
  ⟨fun c hc => okC_B (dotted_bytes (good_parts h).1 c hc), fun c hc => okC_B (dotted_bytes (good_parts h).2 c hc)⟩
/-- An address's text. -/
def atT (l d : List UInt8) : List UInt8 := l ++ 64 :: d
theorem atT_bytes {l d : List UInt8} (h : goodP l d = true) : ∀ c ∈ atT l d, okB c = true := by
  intro c hc
  rcases List.mem_append.1 hc with h1 | h1
  · exact ((good_bytes h).1 c h1).1
  · rcases List.mem_cons.1 h1 with rfl | h1
    · decide
    · exact ((good_bytes h).2 c h1).1
theorem atT_len {l d : List UInt8} (h : goodP l d = true) : (atT l d).length ≤ 129 := by
  have h1 := dotted_short (good_parts h).1
  have h2 := dotted_short (good_parts h).2
  simp [atT]; omega
theorem atT_parse {l d : List UInt8} (h : goodP l d = true) : parseP (atT l d) = (([], l, d), 0) := by
  unfold parseP
  have : Lib.cut (atT l d) [64] = (l, d, true) := Spl.cut_at _ (fun hc => ((good_bytes h).1 _ hc).2 rfl)
  rw [this]
  show (if goodP l d = true then _ else _) = _
  rw [if_pos h]
theorem parse_ok {s : List UInt8} {a : Ad} (h : parseP s = (a, 0)) : goodP a.2.1 a.2.2 = true ∧ a.1 = [] ∧ s = atT a.2.1 a.2.2 := by
  unfold parseP at h
  split at h
  · rename_i hg
    obtain ⟨rfl⟩ : (([], (Lib.cut s [64]).1, (Lib.cut s [64]).2.1) : Ad) = a := (Prod.mk.inj h).1
    refine ⟨hg, rfl, ?_⟩
    rcases Spl.first 64 s with hn | ⟨x, y, hs, hx⟩
    · exfalso
      rw [Spl.cut_none hn] at hg
      exact dotted_some (good_parts hg).2 rfl
    · subst hs
      rw [Spl.cut_at _ hx]
      rfl
  · simp at h
theorem print_back {s : List UInt8} {a : Ad} (h : parseP s = (a, 0)) : printP a = (s, 0) := by
  obtain ⟨hg, -, hs⟩ := parse_ok h
  unfold printP
  rw [if_pos hg, hs]
  rfl
theorem path_back {s : List UInt8} {a : Ad} (h : parseP s = (a, 0)) : pathP (60 :: (s ++ [62])) = (a, 0) := by
  obtain ⟨hg, -, hs⟩ := parse_ok h
  show (if s ++ [62] = [62] then _ else if (s ++ [62]).getLast? = some 62 then _ else _) = _
  have hne : s ≠ [] := by rw [hs]; simp [atT]
  rw [if_neg, if_pos (by simp), List.dropLast_concat, h]
  intro h2
  exact hne (by simpa using h2)

/-- The list that is wanted, at most 16 long: an address more. -/
abbrev Pr := List UInt8 × List UInt8
def okPr (p : Pr) : Bool := goodP p.1 p.2
/-- The text of the addresses. -/
def joinT (W : List Pr) : List UInt8 := Lib.join (W.map fun p => atT p.1 p.2) [44, 32]
theorem joinT_one (p : Pr) : joinT [p] = atT p.1 p.2 := Lib.join_one _ _
theorem join_two (x y : List UInt8) (r : List (List UInt8)) (sep : List UInt8) : Lib.join (x :: y :: r) sep = x ++ sep ++ Lib.join (y :: r) sep := by
  rw [Lib.join_cons, Lib.join_cons]
  simp [Lib.joinTail]
theorem join_snoc (sep : List UInt8) : ∀ (l : List (List UInt8)) (x : List UInt8), l ≠ [] → Lib.join (l ++ [x]) sep = Lib.join l sep ++ sep ++ x
  | [], x, h => absurd rfl h
  | [y], x, _ => by rw [show [y] ++ [x] = [y, x] from rfl, join_two, Lib.join_one, Lib.join_one]
  | y :: z :: l, x, _ => by
    have := join_snoc sep (z :: l) x (by simp)
    rw [show y :: z :: l ++ [x] = y :: z :: (l ++ [x]) from rfl, join_two, join_two, show z :: (l ++ [x]) = z :: l ++ [x] from rfl, this]
    simp
theorem joinT_snoc (W : List Pr) (p : Pr) (h : W ≠ []) : joinT (W ++ [p]) = joinT W ++ [44, 32] ++ atT p.1 p.2 := by
  unfold joinT
  rw [List.map_append, List.map_cons, List.map_nil, join_snoc _ _ _ (by simpa using h)]
theorem joinT_cons (p q : Pr) (W : List Pr) : joinT (p :: q :: W) = atT p.1 p.2 ++ 44 :: 32 :: joinT (q :: W) := by
  unfold joinT
  rw [List.map_cons, List.map_cons, join_two]
  simp
theorem joinT_head {p : Pr} {W : List Pr} (h : okPr p = true) : ∃ c t, joinT (p :: W) = c :: t ∧ isBl c = false := by
  have hne : atT p.1 p.2 ≠ [] := by simp [atT]
  obtain ⟨c, t, hct⟩ := List.exists_cons_of_ne_nil hne
  have hb := atT_bytes h c (by rw [hct]; simp)
  refine ⟨c, ?_, ?_, ?_⟩
  · exact match W with | [] => t | q :: W => t ++ 44 :: 32 :: joinT (q :: W)
  · match W with
    | [] => rw [joinT_one, hct]
    | q :: W => rw [joinT_cons, hct]; rfl
  · unfold okB at hb
    have := of_decide_eq_true hb
    unfold isBl
    simp [this.2.2.1, this.2.2.2]
theorem take_no {q : UInt8 → Bool} : ∀ {x : List UInt8} (r : List UInt8), (∀ c ∈ x, q c = true) → (∀ c t, r = c :: t → q c = false) → (x ++ r).takeWhile q = x ∧ (x ++ r).dropWhile q = r
  | [], r, _, hr => by
    match r, hr with
    | [], _ => exact ⟨rfl, rfl⟩
    | c :: t, hr => have := hr c t rfl; simp [this]
  | y :: x, r, hx, hr => by
    have ih := take_no (x := x) r (fun c hc => hx c (by simp [hc])) hr
    have hy := hx y (by simp)
    simp [hy, ih]
theorem okB_cut {c : UInt8} (h : okB c = true) : (!isCut c) = true := by
  unfold okB at h
  have := of_decide_eq_true h
  unfold isCut
  simp [this.2.1, this.2.2.1, this.2.2.2]
/-- An address of the text. -/
theorem one_at (f : Nat) {p : Pr} (h : okPr p = true) (r : List UInt8) (hr : r = [] ∨ ∃ t, r = 44 :: t) (b : List UInt8) (hb : b = [] ∨ b = [32]) : one f (b ++ atT p.1 p.2 ++ r) = some (some (([], p.1, p.2), r)) := by
  have hne : atT p.1 p.2 ≠ [] := by simp [atT]
  obtain ⟨c, t, hct⟩ := List.exists_cons_of_ne_nil hne
  have hcb := atT_bytes h c (by rw [hct]; simp)
  have hc : isBl c = false := by
    unfold okB at hcb
    have := of_decide_eq_true hcb
    unfold isBl
    simp [this.2.2.1, this.2.2.2]
  have hbl : blanksP (b ++ atT p.1 p.2 ++ r) = atT p.1 p.2 ++ r := by
    unfold blanksP
    rcases hb with rfl | rfl
    · rw [List.nil_append, hct, List.cons_append, List.dropWhile_cons_of_neg (by simp [hc])]
    · rw [show [32] ++ atT p.1 p.2 ++ r = 32 :: (atT p.1 p.2 ++ r) from rfl, List.dropWhile_cons_of_pos (by rfl), hct, List.cons_append, List.dropWhile_cons_of_neg (by simp [hc])]
  obtain ⟨h1, h2⟩ := take_no (q := fun c => !isCut c) (x := atT p.1 p.2) r (fun c hc => okB_cut (atT_bytes h c hc)) (by
    intro c t hct2
    rcases hr with rfl | ⟨t2, rfl⟩
    · cases hct2
    · obtain ⟨rfl, _⟩ := List.cons.inj hct2; rfl)
  have hbr : blanksP r = r := by
    rcases hr with rfl | ⟨t2, rfl⟩
    · rfl
    · rfl
  unfold one
  dsimp only
  rw [hbl, h1, h2, atT_parse h, hbr]
  rfl
/-- A list's text is read as the list. -/
theorem lst_join (g : Nat) : ∀ (W : List Pr) (f : Nat) (acc : List Ad) (b : List UInt8), W ≠ [] → (∀ p ∈ W, okPr p = true) → W.length ≤ f → (b = [] ∨ b = [32]) → lst f g acc (b ++ joinT W) = some (fin (acc ++ W.map fun p => ([], p.1, p.2)))
  | [], f, acc, b, h, _, _, _ => absurd rfl h
  | [p], 0, acc, b, _, _, hf, _ => by simp at hf
  | p :: q :: W, 0, acc, b, _, _, hf, _ => by simp at hf
  | [p], f + 1, acc, b, _, hk, _, hb => by
    have h1 := one_at g (hk p (by simp)) [] (.inl rfl) b hb
    rw [List.append_nil] at h1
    rw [joinT_one]
    unfold lst
    rw [h1]
    rfl
  | p :: q :: W, f + 1, acc, b, _, hk, hf, hb => by
    have h1 := one_at g (hk p (by simp)) (44 :: 32 :: joinT (q :: W)) (.inr ⟨_, rfl⟩) b hb
    rw [joinT_cons, ← List.append_assoc]
    unfold lst
    rw [h1]
    show (if (44 : UInt8) = 44 then lst f g (acc ++ [([], p.1, p.2)]) (32 :: joinT (q :: W)) else _) = _
    rw [if_pos rfl]
    have := lst_join g (q :: W) f (acc ++ [([], p.1, p.2)]) [32] (by simp) (fun x hx => hk x (by simp [hx])) (by simp at hf ⊢; omega) (.inr rfl)
    rw [show [32] ++ joinT (q :: W) = 32 :: joinT (q :: W) from rfl] at this
    rw [this]
    simp
theorem lst_wanted {W : List Pr} (hne : W ≠ []) (hk : ∀ p ∈ W, okPr p = true) (hl : W.length ≤ 16) : lst 16 20 [] (joinT W) = some (W.map (fun p => ([], p.1, p.2)), 0) := by
  have := lst_join 20 W 16 [] [] hne hk hl (.inl rfl)
  rw [List.nil_append, List.nil_append] at this
  rw [this]
  unfold fin
  rw [if_neg (by simp; omega)]
theorem lst_none : lst 16 20 [] [] = some ([], 90) := by decide +kernel
theorem joinT_bytes {W : List Pr} (hk : ∀ p ∈ W, okPr p = true) : ∀ c ∈ joinT W, c.toNat < 128 := by
  intro c hc
  induction W with
  | nil => simp [joinT, Lib.join] at hc
  | cons p W ih =>
    have hB : ∀ c ∈ atT p.1 p.2, c.toNat < 128 := fun c hc => by
      have := atT_bytes (hk p (by simp)) c hc
      unfold okB at this
      exact (of_decide_eq_true this).1
    match W, ih with
    | [], _ => rw [joinT_one] at hc; exact hB c hc
    | q :: W, ih =>
      rw [joinT_cons] at hc
      rcases List.mem_append.1 hc with h | h
      · exact hB c h
      · rcases List.mem_cons.1 h with rfl | h
        · decide
        · rcases List.mem_cons.1 h with rfl | h
          · decide
          · exact ih (fun x hx => hk x (by simp [hx])) h
theorem joinT_len : ∀ {W : List Pr}, (∀ p ∈ W, okPr p = true) → (joinT W).length ≤ 131 * W.length
  | [], _ => by simp [joinT, Lib.join]
  | [p], hk => by rw [joinT_one]; have := atT_len (hk p (by simp)); simp; omega
  | p :: q :: W, hk => by
    rw [joinT_cons]
    have h1 := atT_len (hk p (by simp))
    have h2 := joinT_len (W := q :: W) (fun x hx => hk x (by simp [hx]))
    simp at h2 ⊢
    omega

/-- The text of a phrase's words, each with tabs behind it, and a blank. -/
abbrev Wd := List UInt8 × Nat
def wdT (ph : List Wd) : List UInt8 := ph.flatMap fun p => p.1 ++ List.replicate p.2 9 ++ [32]
def okWd (p : Wd) : Bool := !p.1.isEmpty && p.1.all fun c => decide (97 ≤ c.toNat ∧ c.toNat ≤ 122) || c == 46
def nmT (ph : List Wd) : List UInt8 := Lib.join (ph.map (·.1)) [32]
def tail0 : List UInt8 := [60, 120, 64, 121, 46, 122, 62]
theorem pl_all : (List.range 256).all (fun n => !(decide (97 ≤ (UInt8.ofNat n).toNat ∧ (UInt8.ofNat n).toNat ≤ 122) || UInt8.ofNat n == 46) || (isPl (UInt8.ofNat n) && UInt8.ofNat n != 60 && UInt8.ofNat n != 34 && UInt8.ofNat n != 64 && !isBl (UInt8.ofNat n) && !isCut (UInt8.ofNat n) && decide ((UInt8.ofNat n).toNat < 128))) = true := by decide +kernel
theorem wd_byte {p : Wd} (h : okWd p = true) : p.1 ≠ [] ∧ ∀ c ∈ p.1, isPl c = true ∧ c ≠ 60 ∧ c ≠ 34 ∧ c ≠ 64 ∧ isBl c = false ∧ isCut c = false ∧ c.toNat < 128 := by
  unfold okWd at h
  rw [Bool.and_eq_true, List.all_eq_true] at h
  refine ⟨by intro e; rw [e] at h; simp at h, fun c hc => ?_⟩
  have h1 := h.2 c hc
  have h2 := List.all_eq_true.1 pl_all c.toNat (List.mem_range.2 c.toNat_lt)
  rw [UInt8.ofNat_toNat, h1] at h2
  simp only [Bool.not_true, Bool.false_or, Bool.and_eq_true, bne_iff_ne, ne_eq, Bool.not_eq_true', decide_eq_true_eq] at h2
  exact ⟨h2.1.1.1.1.1.1, h2.1.1.1.1.1.2, h2.1.1.1.1.2, h2.1.1.1.2, h2.1.1.2, h2.1.2, h2.2⟩
theorem bl_tabs (n : Nat) (r : List UInt8) (hr : ∀ c t, r = c :: t → isBl c = false) : blanksP (List.replicate n 9 ++ 32 :: r) = r := by
  unfold blanksP
  induction n with
  | zero =>
    rw [List.replicate_zero, List.nil_append, List.dropWhile_cons_of_pos (by rfl)]
    match r, hr with
    | [], _ => rfl
    | c :: t, hr => rw [List.dropWhile_cons_of_neg (by simp [hr c t rfl])]
  | succ n ih => rw [List.replicate_succ, List.cons_append, List.dropWhile_cons_of_pos (by rfl), ih]
theorem wdT_cons (p : Wd) (ph : List Wd) : wdT (p :: ph) = p.1 ++ (List.replicate p.2 9 ++ 32 :: wdT ph) := by simp [wdT]
theorem wdT_snoc (ph : List Wd) (p : Wd) : wdT (ph ++ [p]) = wdT ph ++ (p.1 ++ List.replicate p.2 9 ++ [32]) := by simp [wdT]
theorem wd_next {ph : List Wd} (hk : ∀ p ∈ ph, okWd p = true) : ∀ c t, wdT ph ++ tail0 = c :: t → isBl c = false := by
  intro c t h
  match ph, hk with
  | [], _ => obtain ⟨rfl, _⟩ := List.cons.inj (show (60 : UInt8) :: _ = c :: t from h); rfl
  | p :: ph, hk =>
    obtain ⟨hne, hb⟩ := wd_byte (hk p (by simp))
    obtain ⟨x, r, hx⟩ := List.exists_cons_of_ne_nil hne
    rw [wdT_cons, hx] at h
    obtain ⟨rfl, _⟩ := List.cons.inj (show x :: _ = c :: t from h)
    exact (hb x (by rw [hx]; simp)).2.2.2.2.1
theorem sep_head (n : Nat) (r : List UInt8) : ∃ c t, List.replicate n 9 ++ 32 :: r = c :: t ∧ (c = 9 ∨ c = 32) := by
  cases n with
  | zero => exact ⟨32, r, rfl, .inr rfl⟩
  | succ n => exact ⟨9, _, by rw [List.replicate_succ]; rfl, .inl rfl⟩
theorem word_at {p : Wd} (h : okWd p = true) (n : Nat) (r : List UInt8) : word (p.1 ++ (List.replicate n 9 ++ 32 :: r)) = some (p.1, List.replicate n 9 ++ 32 :: r) := by
  obtain ⟨hne, hb⟩ := wd_byte h
  obtain ⟨h1, h2⟩ := take_no (q := isPl) (x := p.1) (List.replicate n 9 ++ 32 :: r) (fun c hc => (hb c hc).1) (by
    intro c t hct
    obtain ⟨c2, t2, h3, h4⟩ := sep_head n r
    rw [h3] at hct
    obtain ⟨rfl, _⟩ := List.cons.inj hct
    rcases h4 with rfl | rfl <;> rfl)
  unfold word
  rw [if_neg, h1, if_neg (by simpa using hne), h2]
  obtain ⟨x, t, hx⟩ := List.exists_cons_of_ne_nil hne
  rw [hx]
  simp
  exact (hb x (by rw [hx]; simp)).2.2.1
theorem phr_words : ∀ (ph : List Wd) (f : Nat) (ws : List (List UInt8)), (∀ p ∈ ph, okWd p = true) → ph.length < f → phr f ws (wdT ph ++ tail0) = some (some (ws ++ ph.map (·.1), tail0))
  | ph, 0, ws, _, hf => by simp at hf
  | [], f + 1, ws, _, _ => by
    show (if tail0.head? = some 60 then some (some (ws, tail0)) else _) = _
    rw [if_pos (show tail0.head? = some 60 from rfl)]; simp
  | p :: ph, f + 1, ws, hk, hf => by
    obtain ⟨hne, hb⟩ := wd_byte (hk p (by simp))
    obtain ⟨x, t, hx⟩ := List.exists_cons_of_ne_nil hne
    rw [wdT_cons, List.append_assoc, List.append_assoc, List.cons_append]
    unfold phr
    rw [if_neg, word_at (hk p (by simp))]
    · show phr f (ws ++ [p.1]) (blanksP (List.replicate p.2 9 ++ 32 :: (wdT ph ++ tail0))) = _
      rw [bl_tabs _ _ (wd_next fun q hq => hk q (by simp [hq])), phr_words ph f _ (fun q hq => hk q (by simp [hq])) (by simp at hf; omega)]
      simp
    · rw [hx]
      simp
      exact (hb x (by rw [hx]; simp)).2.1
theorem phrase_read {ph : List Wd} (hne : ph ≠ []) (hk : ∀ p ∈ ph, okWd p = true) (hl : ph.length ≤ 9) : lst 1 20 [] (wdT ph ++ tail0) = some ([(nmT ph, [120], [121, 46, 122])], 0) := by
  have hbl : blanksP (wdT ph ++ tail0) = wdT ph ++ tail0 := by
    match h : wdT ph ++ tail0 with
    | [] => rfl
    | c :: t =>
      unfold blanksP
      rw [List.dropWhile_cons_of_neg (by simp [wd_next hk c t h])]
  obtain ⟨p, r, rfl⟩ := List.exists_cons_of_ne_nil hne
  obtain ⟨hp, hb⟩ := wd_byte (hk p (by simp))
  have hone : one 20 (wdT (p :: r) ++ tail0) = some (some ((nmT (p :: r), [120], [121, 46, 122]), [])) := by
    have hcut : (wdT (p :: r) ++ tail0).takeWhile (fun c => !isCut c) = p.1 := by
      rw [wdT_cons, List.append_assoc, List.append_assoc, List.cons_append]
      refine (take_no (q := fun c => !isCut c) _ (fun c hc => by simp [(hb c hc).2.2.2.2.2.1]) ?_).1
      intro c t hct
      obtain ⟨c2, t2, h3, h4⟩ := sep_head p.2 (wdT r ++ tail0)
      rw [h3] at hct
      obtain ⟨rfl, _⟩ := List.cons.inj hct
      rcases h4 with rfl | rfl <;> rfl
    have hpar : (parseP p.1).2 = 90 := by
      unfold parseP
      rw [Spl.cut_none (fun hc => (hb _ hc).2.2.2.1 rfl), if_neg]
      show ¬ (dottedP atomP p.1 && dottedP labelP []) = true
      rw [show dottedP labelP [] = false from rfl, Bool.and_false]; simp
    unfold one
    dsimp only
    rw [hbl, hcut, hpar, if_neg (by decide), phr_words (p :: r) 20 [] hk (by omega)]
    rw [List.nil_append]
    show (if (62 : UInt8) ∈ tail0 ∧ (p :: r).map (·.1) ≠ [] then _ else _) = _
    rw [if_pos ⟨by decide, by simp⟩]
    rw [show pathP (tail0.takeWhile (fun c => c != 62) ++ [62]) = (([], [120], [121, 46, 122]), 0) by decide +kernel]
    rfl
  unfold lst
  rw [hone]
  show some (fin ([] ++ [(nmT (p :: r), [120], [121, 46, 122])])) = _
  rfl
theorem wdT_bytes {ph : List Wd} (hk : ∀ p ∈ ph, okWd p = true) : ∀ c ∈ wdT ph, c.toNat < 128 := by
  intro c hc
  simp only [wdT, List.mem_flatMap] at hc
  obtain ⟨p, hp, h⟩ := hc
  rcases List.mem_append.1 h with h | h
  · rcases List.mem_append.1 h with h | h
    · exact ((wd_byte (hk p hp)).2 c h).2.2.2.2.2.2
    · have := (List.mem_replicate.1 h).2; subst this; decide
  · have : c = 32 := by simpa using h
    subst this; decide
end Go.Proofs.YtmgndnbcaeepcaaDoor.Ad
