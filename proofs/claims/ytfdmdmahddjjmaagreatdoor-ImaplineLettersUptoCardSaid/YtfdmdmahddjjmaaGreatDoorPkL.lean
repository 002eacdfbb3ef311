/-
  Joined texts: what each shows stands at its own head.
-/
import Derived.Test.YtfdmdmahddjjmaaGreatDoorKIm
import Derived.Test.YtfdmdmahddjjmaaGreatDoorPkOwn

/-
  ImaplineLetters: the plain law. Texts that are the same but for great and small letters are read alike.
-/
namespace Go.Proofs.YtfdmdmahddjjmaaGreatDoor.Im
open Go.Proofs.YtfdmdmahddjjmaaGreatDoor
set_option linter.unusedVariables false
set_option linter.unusedSimpArgs false

abbrev up (c : UInt8) : UInt8 := moveB 97 65 c
theorem all_bytes {P : UInt8 → Prop} (h : ∀ n : Fin 256, P (UInt8.ofNat n.val)) (c : UInt8) : P c := by
  have := h ⟨c.toNat, c.toNat_lt⟩
  simpa using this
theorem up_up : ∀ c, up (up c) = up c := all_bytes (by decide +kernel)
theorem up_low : ∀ c, up (moveB 65 97 c) = up c := all_bytes (by decide +kernel)
/-- The same but for great and small letters. -/
def RR (s t : Bt) : Prop := great s = great t
theorem RR.refl (s : Bt) : RR s s := rfl
theorem RR.len {s t : Bt} (h : RR s t) : s.length = t.length := by
  have := congrArg List.length h
  simpa [great] using this
theorem RR.nil_left {t : Bt} (h : RR [] t) : t = [] := List.eq_nil_of_length_eq_zero h.len.symm
theorem RR.nil_right {t : Bt} (h : RR t []) : t = [] := List.eq_nil_of_length_eq_zero h.len
theorem RR.cons_iff {c d : UInt8} {s t : Bt} : RR (c :: s) (d :: t) ↔ up c = up d ∧ RR s t := by
  unfold RR great
  simp
theorem RR.cons {c : UInt8} {s t : Bt} (h : RR (c :: s) t) : ∃ d r, t = d :: r ∧ up c = up d ∧ RR s r := by
  cases t with
  | nil => exact absurd h.len (by simp)
  | cons d r => exact ⟨d, r, rfl, RR.cons_iff.1 h⟩
theorem RR.append {a b s t : Bt} (h : RR a b) (k : RR s t) : RR (a ++ s) (b ++ t) := by
  unfold RR great at *
  simp [h, k]
theorem RR.drop {s t : Bt} (n : Nat) (h : RR s t) : RR (s.drop n) (t.drop n) := by
  unfold RR great at *
  rw [List.map_drop, List.map_drop, h]
theorem RR.take {s t : Bt} (n : Nat) (h : RR s t) : RR (s.take n) (t.take n) := by
  unfold RR great at *
  rw [List.map_take, List.map_take, h]
/-- A byte that is no letter. -/
def Fix (k : UInt8) : Prop := ∀ c, up c = up k → c = k
theorem Fix.eq {k c d : UInt8} (h : Fix k) (e : up c = up d) : c = k ↔ d = k := by
  constructor
  · rintro rfl; exact h d e.symm
  · rintro rfl; exact h c e
instance (k : UInt8) : Decidable (∀ n : Fin 256, up (UInt8.ofNat n.val) = up k → UInt8.ofNat n.val = k) := inferInstance
theorem fix_of {k : UInt8} (h : ∀ n : Fin 256, up (UInt8.ofNat n.val) = up k → UInt8.ofNat n.val = k) : Fix k := all_bytes (P := fun c => up c = up k → c = k) h
/-- Kinds of bytes that do not see the letters' size. -/
def Inv (p : UInt8 → Bool) : Prop := ∀ c d, up c = up d → p c = p d
theorem inv_of {p : UInt8 → Bool} (h : ∀ n : Fin 256, p (up (UInt8.ofNat n.val)) = p (UInt8.ofNat n.val)) : Inv p := by
  have h2 := all_bytes (P := fun c => p (up c) = p c) h
  intro c d e
  rw [← h2 c, ← h2 d, e]
theorem inv_dg : Inv isDg := inv_of (by decide +kernel)
theorem inv_let : Inv letB := inv_of (by decide +kernel)
theorem inv_atom : Inv atomB := inv_of (by decide +kernel)
theorem inv_pat : Inv patB := inv_of (by decide +kernel)
theorem inv_ranged : Inv rangedB := inv_of (by decide +kernel)
theorem fix_dg (c d : UInt8) (h : isDg c = true) (e : up c = up d) : c = d := by
  have h2 := all_bytes (P := fun c => isDg c = true → up c = c) (by decide +kernel)
  have hd : isDg d = true := by rw [← inv_dg c d e]; exact h
  rw [← h2 c h, ← h2 d hd, e]
theorem fix_ranged (c d : UInt8) (h : rangedB c = true) (e : up c = up d) : c = d := by
  have h2 := all_bytes (P := fun c => rangedB c = true → up c = c) (by decide +kernel)
  have hd : rangedB d = true := by rw [← inv_ranged c d e]; exact h
  rw [← h2 c h, ← h2 d hd, e]
theorem while_rel {p : UInt8 → Bool} (hp : Inv p) : ∀ {s t : Bt}, RR s t → RR (s.takeWhile p) (t.takeWhile p) ∧ RR (s.dropWhile p) (t.dropWhile p)
  | [], t, h => by rw [h.nil_left]; exact ⟨rfl, rfl⟩
  | c :: s, t, h => by
    obtain ⟨d, r, rfl, hc, hr⟩ := h.cons
    have ih := while_rel hp hr
    rw [List.takeWhile_cons, List.takeWhile_cons, List.dropWhile_cons, List.dropWhile_cons, ← hp c d hc]
    cases p c with
    | true => exact ⟨RR.cons_iff.2 ⟨hc, ih.1⟩, by simpa using ih.2⟩
    | false => exact ⟨rfl, by simpa using h⟩
theorem while_eq {p : UInt8 → Bool} (hp : Inv p) (hf : ∀ c d, p c = true → up c = up d → c = d) : ∀ {s t : Bt}, RR s t → s.takeWhile p = t.takeWhile p
  | [], t, h => by rw [h.nil_left]
  | c :: s, t, h => by
    obtain ⟨d, r, rfl, hc, hr⟩ := h.cons
    have ih := while_eq hp hf hr
    rw [List.takeWhile_cons, List.takeWhile_cons, ← hp c d hc]
    cases e : p c with
    | true => rw [hf c d e hc]; simp [ih]
    | false => simp

/-- Two answers are alike. -/
def OR {α β : Type} (P : α → β → Prop) : Option α → Option β → Prop
  | none, none => True
  | some a, some b => P a b
  | _, _ => False
theorem OR.bind {α β γ δ : Type} {P : α → β → Prop} {Q : γ → δ → Prop} {x : Option α} {y : Option β} {f : α → Option γ} {g : β → Option δ} (h : OR P x y) (k : ∀ a b, P a b → OR Q (f a) (g b)) : OR Q (x.bind f) (y.bind g) := by
  cases x <;> cases y
  · trivial
  · exact h.elim
  · exact h.elim
  · exact k _ _ h
theorem OR.map {α β γ δ : Type} {P : α → β → Prop} {Q : γ → δ → Prop} {x : Option α} {y : Option β} {f : α → γ} {g : β → δ} (h : OR P x y) (k : ∀ a b, P a b → Q (f a) (g b)) : OR Q (x.map f) (y.map g) := by
  cases x <;> cases y
  · trivial
  · exact h.elim
  · exact h.elim
  · exact k _ _ h
theorem OR.some {α β : Type} {P : α → β → Prop} {a : α} {b : β} (h : P a b) : OR P (some a) (some b) := h
theorem OR.none {α β : Type} {P : α → β → Prop} : OR P (none : Option α) (none : Option β) := True.intro
theorem OR.ite {α β : Type} {P : α → β → Prop} {c d : Prop} [Decidable c] [Decidable d] {x x' : Option α} {y y' : Option β} (hc : c ↔ d) (h1 : c → d → OR P x y) (h2 : ¬ c → ¬ d → OR P x' y') : OR P (if c then x else x') (if d then y else y') := by
  by_cases h : c
  · rw [if_pos h, if_pos (hc.1 h)]; exact h1 h (hc.1 h)
  · rw [if_neg h, if_neg (fun k => h (hc.2 k))]; exact h2 h (fun k => h (hc.2 k))
/-- What two readers give is alike. -/
abbrev PR {α : Type} (V : α → α → Prop) : α × Bt → α × Bt → Prop := fun a b => V a.1 b.1 ∧ RR a.2 b.2
abbrev Rel {α : Type} (V : α → α → Prop) (f g : Rd α) : Prop := ∀ s t, RR s t → OR (PR V) (f s) (g t)
abbrev RelS {α : Type} (V : α → α → Prop) (f : Rd α) : Prop := Rel V f f

theorem prefix_rel : ∀ {k s t : Bt}, (∀ c ∈ k, Fix c) → RR s t → Lib.hasPrefix s k = Lib.hasPrefix t k
  | [], s, t, _, _ => by simp [Lib.hasPrefix]
  | c :: k, s, t, hk, h => by
    cases s with
    | nil => rw [h.nil_left]
    | cons a s =>
      obtain ⟨b, r, rfl, hc, hr⟩ := h.cons
      have ih := prefix_rel (k := k) (fun c hc => hk c (by simp [hc])) hr
      unfold Lib.hasPrefix at ih ⊢
      have e : (c == a) = (c == b) := by
        have := (hk c (by simp)).eq hc
        rw [Bool.eq_iff_iff]
        simp only [beq_iff_eq]
        exact ⟨fun q => (this.1 q.symm).symm, fun q => (this.2 q.symm).symm⟩
      simp only [List.isPrefixOf, e, ih]
theorem sign_rel {k s t : Bt} (hk : ∀ c ∈ k, Fix c) (h : RR s t) : OR RR (sign k s) (sign k t) := by
  unfold sign
  rw [prefix_rel hk h]
  split
  · exact h.drop _
  · exact OR.none
theorem takes_rel {k s t : Bt} (hk : ∀ c ∈ k, Fix c) (h : RR s t) : (takes k s).1 = (takes k t).1 ∧ RR (takes k s).2 (takes k t).2 := by
  unfold takes
  rw [prefix_rel hk h]
  split
  · exact ⟨rfl, h.drop _⟩
  · exact ⟨rfl, h⟩
theorem word_rel {s t : Bt} (h : RR s t) : (word s).1 = (word t).1 ∧ RR (word s).2 (word t).2 := while_rel inv_let h
/-- The signs. -/
theorem signs : ∀ k ∈ ([92, 41, 40, 32, 34, 13, 10, 123, 125, 91, 93, 60, 62, 46, 43, 45] : Bt), Fix k := by
  intro k hk
  simp only [List.mem_cons, List.not_mem_nil, or_false] at hk
  rcases hk with rfl | rfl | rfl | rfl | rfl | rfl | rfl | rfl | rfl | rfl | rfl | rfl | rfl | rfl | rfl | rfl <;> exact fix_of (by decide +kernel)
theorem fixes {l : Bt} (h : l.all (fun k => ([92, 41, 40, 32, 34, 13, 10, 123, 125, 91, 93, 60, 62, 46, 43, 45] : Bt).contains k) = true) : ∀ k ∈ l, Fix k := by
  intro k hk
  have := List.all_eq_true.1 h k hk
  exact signs k (by simpa using this)
theorem number_rel (lo hi : Int) : RelS Eq (number lo hi) := by
  intro s t h
  unfold number
  rw [while_eq inv_dg fix_dg h]
  split
  · exact ⟨rfl, (while_rel inv_dg h).2⟩
  · exact OR.none
theorem literal_rel : RelS RR literal := by
  intro s t h
  unfold literal
  refine (sign_rel (fixes (by decide)) h).bind fun s t h => (number_rel 0 4096 s t h).bind fun q r ⟨h1, h2⟩ => (sign_rel (fixes (by decide)) h2).bind fun s t h => ?_
  rw [h1]
  refine OR.ite (by rw [h.len]) (fun _ _ => ⟨h.take _, h.drop _⟩) (fun _ _ => OR.none)
theorem quoteL_rel (n : Nat) : ∀ s t, s.length ≤ n → RR s t → OR (PR RR) (quoteL s) (quoteL t) := by
  induction n with
  | zero =>
    intro s t hn h
    have : s = [] := List.eq_nil_of_length_eq_zero (by omega)
    subst this
    rw [h.nil_left, quoteL.eq_def]
    exact OR.none
  | succ n ih =>
    intro s t hn h
    cases s with
    | nil => rw [h.nil_left, quoteL.eq_def]; exact OR.none
    | cons c s =>
      obtain ⟨d, t, rfl, hc, hr⟩ := h.cons
      simp only [List.length_cons] at hn
      rw [quoteL.eq_def, quoteL.eq_def]
      dsimp only
      refine OR.ite ((signs 34 (by decide)).eq hc) (fun _ _ => ⟨rfl, hr⟩) fun _ _ => ?_
      refine OR.ite ((signs 92 (by decide)).eq hc) (fun _ _ => ?_) fun _ _ => ?_
      · cases s with
        | nil => rw [hr.nil_left]; exact OR.none
        | cons a s =>
          obtain ⟨b, t, rfl, ha, hr⟩ := hr.cons
          simp only [List.length_cons] at hn
          dsimp only
          refine OR.ite (by rw [(signs 34 (by decide)).eq ha, (signs 92 (by decide)).eq ha]) (fun _ _ => ?_) fun _ _ => OR.none
          exact (ih s t (by omega) hr).map fun q r h => ⟨RR.cons_iff.2 ⟨ha, h.1⟩, h.2⟩
      · refine OR.ite (by rw [(signs 13 (by decide)).eq hc, (signs 10 (by decide)).eq hc]) (fun _ _ => OR.none) fun _ _ => ?_
        exact (ih s t (by omega) hr).map fun q r h => ⟨RR.cons_iff.2 ⟨hc, h.1⟩, h.2⟩
theorem quoted_rel : RelS RR Im.quoted := by
  intro s t h
  unfold Im.quoted
  exact (sign_rel (fixes (by decide)) h).bind fun s t h => quoteL_rel _ s t (Nat.le_refl _) h
theorem text_rel {p : UInt8 → Bool} (hp : Inv p) : RelS RR (text p) := by
  intro s t h
  unfold text
  refine OR.ite (by rw [prefix_rel (fixes (by decide)) h]) (fun _ _ => quoted_rel s t h) fun _ _ => ?_
  refine OR.ite (by rw [prefix_rel (fixes (by decide)) h]) (fun _ _ => literal_rel s t h) fun _ _ => ?_
  have hw := while_rel hp h
  refine OR.ite ?_ (fun _ _ => OR.none) fun _ _ => hw
  exact ⟨fun e => by rw [e] at hw; exact hw.1.nil_left, fun e => by rw [e] at hw; exact hw.1.nil_right⟩
theorem then_rel : RelS RR then_ := by
  intro s t h
  unfold then_
  exact (sign_rel (fixes (by decide)) h).bind fun s t h => text_rel inv_atom s t h
theorem set_rel : RelS Eq set := by
  intro s t h
  unfold set
  rw [while_eq inv_ranged fix_ranged h]
  split
  · exact ⟨rfl, (while_rel inv_ranged h).2⟩
  · exact OR.none
theorem flag_rel : RelS Eq flag := by
  intro s t h
  unfold flag
  refine (sign_rel (fixes (by decide)) h).bind fun s t h => ?_
  rw [(word_rel h).1]
  cases flagAt (word t).1 with
  | none => exact OR.none
  | some i => exact ⟨rfl, (word_rel h).2⟩
theorem listL_rel (f : Nat) : ∀ (b : Bool) (n : Nat), RelS Eq (listL f b n) := by
  induction f with
  | zero => intro b n s t h; exact OR.none
  | succ f ih =>
    intro b n s t h
    have ht := takes_rel (k := [41]) (fixes (by decide)) h
    rw [listL.eq_def, listL.eq_def]
    dsimp only
    refine OR.ite (by rw [ht.1]) (fun _ _ => ⟨rfl, ht.2⟩) fun _ _ => ?_
    refine OR.bind (P := RR) (OR.ite Iff.rfl (fun _ _ => h) fun _ _ => sign_rel (fixes (by decide)) h) fun s t h => ?_
    refine (flag_rel s t h).bind fun q r ⟨h1, h2⟩ => ?_
    rw [h1]
    exact ih _ _ _ _ h2
theorem list_rel : RelS Eq list := by
  intro s t h
  unfold list
  refine (sign_rel (fixes (by decide)) h).bind fun s t h => ?_
  rw [h.len]
  exact listL_rel _ _ _ _ _ h
theorem head_rel {s t : Bt} {p : UInt8 → Bool} (hp : Inv p) (h : RR s t) : s.head?.any p = t.head?.any p := by
  cases s with
  | nil => rw [h.nil_left]
  | cons c s =>
    obtain ⟨d, r, rfl, hc, hr⟩ := h.cons
    simpa using hp c d hc
theorem numsL_rel (f : Nat) : ∀ (l : List Int), RelS Eq (numsL f l) := by
  induction f with
  | zero => intro l s t h; exact OR.none
  | succ f ih =>
    intro l s t h
    rw [numsL.eq_def, numsL.eq_def]
    dsimp only
    refine OR.ite (by rw [head_rel inv_dg h]) (fun _ _ => ?_) fun _ _ => ⟨rfl, h⟩
    refine (number_rel 1 99 s t h).bind fun q r ⟨h1, h2⟩ => ?_
    refine OR.ite Iff.rfl (fun _ _ => ?_) fun _ _ => OR.none
    have ht := takes_rel (k := [46]) (fixes (by decide)) h2
    refine OR.ite (by rw [ht.1]) (fun _ _ => ?_) fun _ _ => ⟨by rw [h1], h2⟩
    rw [h1]
    exact ih _ _ _ ht.2
theorem section_rel : RelS Eq section_ := by
  intro s t h
  unfold section_
  refine OR.ite (by rw [prefix_rel (fixes (by decide)) h]) (fun _ _ => ⟨rfl, h⟩) fun _ _ => ?_
  rw [h.len]
  refine (numsL_rel _ _ s t h).bind fun q r ⟨h1, h2⟩ => ?_
  rw [h1]
  refine OR.ite Iff.rfl (fun _ _ => ⟨rfl, h2⟩) fun _ _ => ?_
  rw [(word_rel h2).1]
  cases whatOf r.1.1 (word r.2).1 with
  | none => exact OR.none
  | some k => exact ⟨rfl, (word_rel h2).2⟩
theorem item_rel : RelS Eq item := by
  intro s t h
  have hw := word_rel h
  unfold item
  rw [hw.1]
  refine OR.ite Iff.rfl (fun _ _ => OR.none) fun _ _ => ?_
  refine OR.ite Iff.rfl (fun _ _ => ⟨rfl, hw.2⟩) fun _ _ => ?_
  refine (sign_rel (fixes (by decide)) hw.2).bind fun s t h => (section_rel s t h).bind fun q r ⟨h1, h2⟩ => (sign_rel (fixes (by decide)) h2).bind fun s t h => ?_
  have ht := takes_rel (k := [60]) (fixes (by decide)) h
  rw [h1]
  refine OR.ite (by rw [ht.1]) (fun _ _ => ?_) fun _ _ => ⟨rfl, h⟩
  refine (number_rel _ _ _ _ ht.2).bind fun a a' ⟨h3, h4⟩ => (sign_rel (fixes (by decide)) h4).bind fun s t h => (number_rel _ _ s t h).bind fun b b' ⟨h5, h6⟩ => (sign_rel (fixes (by decide)) h6).map fun s t h => ?_
  rw [h3, h5]
  exact ⟨rfl, h⟩
theorem itemsL_rel (f : Nat) : ∀ (l : List It), RelS Eq (itemsL f l) := by
  induction f with
  | zero => intro l s t h; exact OR.none
  | succ f ih =>
    intro l s t h
    have ht := takes_rel (k := [32]) (fixes (by decide)) h
    rw [itemsL.eq_def, itemsL.eq_def]
    dsimp only
    refine OR.ite (by rw [ht.1]) (fun _ _ => ?_) fun _ _ => ⟨rfl, h⟩
    refine (item_rel _ _ ht.2).bind fun q r ⟨h1, h2⟩ => ?_
    rw [h1]
    exact ih _ _ _ h2
theorem items_rel : RelS Eq items := by
  intro s t h
  have hg : great s = great t := h
  have ht := takes_rel (k := [40]) (fixes (by decide)) h
  unfold items
  rw [hg]
  refine OR.ite Iff.rfl (fun _ _ => ⟨rfl, rfl⟩) fun _ _ => ?_
  refine OR.ite (by rw [ht.1]) (fun _ _ => (item_rel s t h).map fun q r ⟨h1, h2⟩ => ⟨by rw [h1], h2⟩) fun _ _ => ?_
  refine (item_rel _ _ ht.2).bind fun q r ⟨h1, h2⟩ => ?_
  rw [h1, h2.len]
  refine (itemsL_rel _ _ _ _ h2).bind fun q r ⟨h1, h2⟩ => (sign_rel (fixes (by decide)) h2).bind fun s t h => ?_
  rw [h1]
  exact OR.ite Iff.rfl (fun _ _ => ⟨rfl, h⟩) fun _ _ => OR.none
/-- Keys that are alike. -/
def KR (a b : Ky) : Prop := a.kind = b.kind ∧ a.not = b.not ∧ a.n = b.n ∧ a.set = b.set ∧ RR a.text b.text
theorem KR.refl (a : Ky) : KR a a := ⟨rfl, rfl, rfl, rfl, rfl⟩
theorem inv_star : Inv (fun c => isDg c || decide (c = 42)) := inv_of (by decide +kernel)
theorem key_rel (d : Nat) : RelS KR (key d) := by
  induction d with
  | zero =>
    intro s t h
    have hw := word_rel h
    rw [key.eq_def, key.eq_def]
    refine OR.ite (by rw [head_rel inv_star h]) (fun _ _ => (set_rel s t h).map fun q r ⟨h1, h2⟩ => ⟨by rw [h1]; exact KR.refl _, h2⟩) fun _ _ => ?_
    rw [hw.1]
    cases flagAt (if Lib.hasPrefix (word t).1 [85, 78] = true then (word t).1.drop 2 else (word t).1) with
    | some i => exact ⟨KR.refl _, hw.2⟩
    | none =>
      refine OR.ite Iff.rfl (fun _ _ => ⟨KR.refl _, hw.2⟩) fun _ _ => ?_
      refine OR.ite Iff.rfl (fun _ _ => OR.none) fun _ _ => ?_
      refine OR.ite Iff.rfl (fun _ _ => (sign_rel (fixes (by decide)) hw.2).bind fun s t h => (set_rel s t h).map fun q r ⟨h1, h2⟩ => ⟨by rw [h1]; exact KR.refl _, h2⟩) fun _ _ => ?_
      refine OR.ite Iff.rfl (fun _ _ => (then_rel _ _ hw.2).map fun q r ⟨h1, h2⟩ => ⟨⟨rfl, rfl, rfl, rfl, h1⟩, h2⟩) fun _ _ => ?_
      exact OR.ite Iff.rfl (fun _ _ => (sign_rel (fixes (by decide)) hw.2).bind fun s t h => (number_rel _ _ s t h).map fun q r ⟨h1, h2⟩ => ⟨by rw [h1]; exact KR.refl _, h2⟩) fun _ _ => OR.none
  | succ d ih =>
    intro s t h
    have hw := word_rel h
    rw [key.eq_def, key.eq_def]
    refine OR.ite (by rw [head_rel inv_star h]) (fun _ _ => (set_rel s t h).map fun q r ⟨h1, h2⟩ => ⟨by rw [h1]; exact KR.refl _, h2⟩) fun _ _ => ?_
    rw [hw.1]
    cases flagAt (if Lib.hasPrefix (word t).1 [85, 78] = true then (word t).1.drop 2 else (word t).1) with
    | some i => exact ⟨KR.refl _, hw.2⟩
    | none =>
      refine OR.ite Iff.rfl (fun _ _ => ⟨KR.refl _, hw.2⟩) fun _ _ => ?_
      refine OR.ite Iff.rfl (fun _ _ => (sign_rel (fixes (by decide)) hw.2).bind fun s t h => (ih s t h).map fun q r ⟨⟨h1, h2, h3, h4, h5⟩, h6⟩ => ⟨⟨h1, by rw [h2], h3, h4, h5⟩, h6⟩) fun _ _ => ?_
      refine OR.ite Iff.rfl (fun _ _ => (sign_rel (fixes (by decide)) hw.2).bind fun s t h => (set_rel s t h).map fun q r ⟨h1, h2⟩ => ⟨by rw [h1]; exact KR.refl _, h2⟩) fun _ _ => ?_
      refine OR.ite Iff.rfl (fun _ _ => (then_rel _ _ hw.2).map fun q r ⟨h1, h2⟩ => ⟨⟨rfl, rfl, rfl, rfl, h1⟩, h2⟩) fun _ _ => ?_
      exact OR.ite Iff.rfl (fun _ _ => (sign_rel (fixes (by decide)) hw.2).bind fun s t h => (number_rel _ _ s t h).map fun q r ⟨h1, h2⟩ => ⟨by rw [h1]; exact KR.refl _, h2⟩) fun _ _ => OR.none
/-- Rows whose things are alike. -/
def LR {α : Type} (P : α → α → Prop) : List α → List α → Prop
  | [], [] => True
  | a :: l, b :: m => P a b ∧ LR P l m
  | _, _ => False
theorem LR.len {α : Type} {P : α → α → Prop} : ∀ {l m : List α}, LR P l m → l.length = m.length
  | [], [], _ => rfl
  | a :: l, b :: m, h => by simp [LR.len h.2]
  | [], b :: m, h => h.elim
  | a :: l, [], h => h.elim
theorem LR.at {α : Type} {P : α → α → Prop} : ∀ {l m : List α} (h : LR P l m) (i : Nat) (a b : α), l[i]? = some a → m[i]? = some b → P a b
  | [], [], _, i, a, b, h1, _ => by simp at h1
  | x :: l, y :: m, h, 0, a, b, h1, h2 => by simp at h1 h2; subst h1 h2; exact h.1
  | x :: l, y :: m, h, i + 1, a, b, h1, h2 => LR.at h.2 i a b (by simpa using h1) (by simpa using h2)
  | [], b :: m, h, _, _, _, _, _ => h.elim
  | a :: l, [], h, _, _, _, _, _ => h.elim
theorem LR.snoc {α : Type} {P : α → α → Prop} {x y : α} (k : P x y) : ∀ {l m : List α}, LR P l m → LR P (l ++ [x]) (m ++ [y])
  | [], [], _ => ⟨k, trivial⟩
  | a :: l, b :: m, h => ⟨h.1, LR.snoc k h.2⟩
  | [], b :: m, h => h.elim
  | a :: l, [], h => h.elim
theorem keysL_rel (f : Nat) : ∀ (l m : List Ky), LR KR l m → Rel (LR KR) (keysL f l) (keysL f m) := by
  induction f with
  | zero => intro l m _ s t h; exact OR.none
  | succ f ih =>
    intro l m hl s t h
    have ht := takes_rel (k := [32]) (fixes (by decide)) h
    rw [keysL.eq_def, keysL.eq_def]
    dsimp only
    refine OR.ite (by rw [ht.1]) (fun _ _ => ?_) fun _ _ => ⟨hl, h⟩
    exact (key_rel 8 _ _ ht.2).bind fun q r ⟨h1, h2⟩ => ih _ _ (hl.snoc h1) _ _ h2
theorem statusL_rel (f : Nat) : ∀ (l m : List Bt), l.length = m.length → Rel (fun a b => a.length = b.length) (statusL f l) (statusL f m) := by
  induction f with
  | zero => intro l m _ s t h; exact OR.none
  | succ f ih =>
    intro l m hl s t h
    have hw := word_rel h
    have ht := takes_rel (k := [32]) (fixes (by decide)) hw.2
    rw [statusL.eq_def, statusL.eq_def]
    dsimp only
    rw [hw.1]
    refine OR.ite Iff.rfl (fun _ _ => ?_) fun _ _ => OR.none
    refine OR.ite (by rw [ht.1]) (fun _ _ => ?_) fun _ _ => ⟨by simp [hl], hw.2⟩
    exact ih _ _ (by simp [hl]) _ _ ht.2
theorem flagsL_rel (f : Nat) : ∀ (n : Nat), RelS Eq (flagsL f n) := by
  induction f with
  | zero => intro n s t h; exact OR.none
  | succ f ih =>
    intro n s t h
    rw [flagsL.eq_def, flagsL.eq_def]
    dsimp only
    refine (flag_rel s t h).bind fun q r ⟨h1, h2⟩ => ?_
    have ht := takes_rel (k := [32]) (fixes (by decide)) h2
    rw [h1]
    refine OR.ite (by rw [ht.1]) (fun _ _ => ih _ _ _ ht.2) fun _ _ => ⟨rfl, h2⟩
/-- Commands that are alike. -/
structure CR (a b : Cm) : Prop where
  word : a.word = b.word
  uid : a.uid = b.uid
  names : a.names.length = b.names.length
  flags : a.flags = b.flags
  mode : a.mode = b.mode
  silent : a.silent = b.silent
  items : a.items = b.items
  keys : LR KR a.keys b.keys
theorem mode_rel {m : Int} {s t : Bt} (h : RR s t) : (modeS m s).1 = (modeS m t).1 ∧ RR (modeS m s).2 (modeS m t).2 := by
  have h1 := takes_rel (k := [43]) (fixes (by decide)) h
  have h2 := takes_rel (k := [45]) (fixes (by decide)) h
  unfold modeS
  rw [h1.1, h2.1]
  split
  · exact ⟨rfl, h1.2⟩
  split
  · exact ⟨rfl, h2.2⟩
  · exact ⟨rfl, h⟩
theorem read_rel {k : Nat} (hk : k ≠ 6) {x y : Cm} (hx : CR x y) : Rel CR (readF k x) (readF k y) := by
  intro s t h
  have one : OR (PR CR) (oneF x s) (oneF y t) := by
    unfold oneF
    exact (then_rel s t h).map fun q r ⟨h1, h2⟩ => ⟨⟨hx.word, hx.uid, hx.names, hx.flags, hx.mode, hx.silent, hx.items, hx.keys⟩, h2⟩
  match k, hk with
  | 0, _ => exact ⟨hx, h⟩
  | 1, _ => exact one
  | 2, _ =>
    show OR (PR CR) (listF x s) (listF y t)
    unfold listF
    exact (then_rel s t h).bind fun q r ⟨h1, h2⟩ => (sign_rel (fixes (by decide)) h2).bind fun s t h => (text_rel inv_pat s t h).map fun q r ⟨h1, h2⟩ => ⟨⟨hx.word, hx.uid, hx.names, hx.flags, hx.mode, hx.silent, hx.items, hx.keys⟩, h2⟩
  | 3, _ =>
    show OR (PR CR) (loginF x s) (loginF y t)
    unfold loginF
    exact (then_rel s t h).bind fun q r ⟨h1, h2⟩ => (then_rel _ _ h2).map fun q r ⟨h1, h2⟩ => ⟨⟨hx.word, hx.uid, rfl, hx.flags, hx.mode, hx.silent, hx.items, hx.keys⟩, h2⟩
  | 4, _ =>
    show OR (PR CR) (renameF x s) (renameF y t)
    unfold renameF
    exact (then_rel s t h).bind fun q r ⟨h1, h2⟩ => (then_rel _ _ h2).map fun q r ⟨h1, h2⟩ => ⟨⟨hx.word, hx.uid, hx.names, hx.flags, hx.mode, hx.silent, hx.items, hx.keys⟩, h2⟩
  | 5, _ =>
    show OR (PR CR) (statusF x s) (statusF y t)
    unfold statusF
    refine (then_rel s t h).bind fun q r ⟨h1, h2⟩ => (sign_rel (fixes (by decide)) h2).bind fun s t h => ?_
    rw [h.len]
    exact (statusL_rel _ _ _ hx.names s t h).bind fun q r ⟨h1, h2⟩ => (sign_rel (fixes (by decide)) h2).map fun s t h => ⟨⟨hx.word, hx.uid, h1, hx.flags, hx.mode, hx.silent, hx.items, hx.keys⟩, h⟩
  | 6, hk => exact absurd rfl hk
  | 7, _ =>
    show OR (PR CR) (storeF x s) (storeF y t)
    unfold storeF
    refine (sign_rel (fixes (by decide)) h).bind fun s t h => (set_rel s t h).bind fun q r ⟨h1, h2⟩ => (sign_rel (fixes (by decide)) h2).bind fun s t h => ?_
    rw [hx.mode, hx.flags]
    have hm := mode_rel (m := y.mode) h
    have hw := word_rel hm.2
    rw [hm.1, hw.1]
    refine OR.ite Iff.rfl (fun _ _ => ?_) fun _ _ => OR.none
    refine (sign_rel (fixes (by decide)) hw.2).bind fun s t h => ?_
    refine OR.map (P := PR Eq) (OR.ite (by rw [prefix_rel (fixes (by decide)) h]) (fun _ _ => list_rel s t h) fun _ _ => by rw [h.len]; exact flagsL_rel _ _ _ _ h) fun q r ⟨h1, h2⟩ => ⟨⟨hx.word, hx.uid, hx.names, h1, rfl, rfl, hx.items, hx.keys⟩, h2⟩
  | 8, _ =>
    show OR (PR CR) (copyF x s) (copyF y t)
    unfold copyF
    exact (sign_rel (fixes (by decide)) h).bind fun s t h => (set_rel s t h).bind fun q r ⟨h1, h2⟩ => (then_rel _ _ h2).map fun q r ⟨h1, h2⟩ => ⟨⟨hx.word, hx.uid, hx.names, hx.flags, hx.mode, hx.silent, hx.items, hx.keys⟩, h2⟩
  | 9, _ =>
    show OR (PR CR) (fetchF x s) (fetchF y t)
    unfold fetchF
    exact (sign_rel (fixes (by decide)) h).bind fun s t h => (set_rel s t h).bind fun q r ⟨h1, h2⟩ => (sign_rel (fixes (by decide)) h2).bind fun s t h => (items_rel s t h).map fun q r ⟨h1, h2⟩ => ⟨⟨hx.word, hx.uid, hx.names, hx.flags, hx.mode, hx.silent, h1, hx.keys⟩, h2⟩
  | k + 10, _ =>
    show OR (PR CR) (searchF x s) (searchF y t)
    unfold searchF
    refine (sign_rel (fixes (by decide)) h).bind fun s t h => (key_rel 8 s t h).bind fun q r ⟨h1, h2⟩ => ?_
    rw [h2.len]
    refine (keysL_rel _ [q.1] [r.1] ⟨h1, trivial⟩ _ _ h2).bind fun q r ⟨h1, h2⟩ => ?_
    refine OR.ite (by rw [h1.len]) (fun _ _ => ⟨⟨hx.word, hx.uid, hx.names, hx.flags, hx.mode, hx.silent, hx.items, h1⟩, h2⟩) fun _ _ => OR.none
theorem headS_rel {s t : Bt} (h : RR s t) : (headS s).1 = (headS t).1 ∧ (headS s).2.1 = (headS t).2.1 ∧ RR (headS s).2.2 (headS t).2.2 := by
  have hw := word_rel h
  have ht := takes_rel (k := [32]) (fixes (by decide)) hw.2
  have hv := word_rel ht.2
  unfold headS
  rw [hw.1, ht.1]
  split
  · exact ⟨hv.1, rfl, hv.2⟩
  · exact ⟨rfl, rfl, hw.2⟩
end Go.Proofs.YtfdmdmahddjjmaaGreatDoor.Im

/-
  ImaplineLetters: the plain law of whole commands.
-/
namespace Go.Proofs.YtfdmdmahddjjmaaGreatDoor.Im
open Go.Proofs.YtfdmdmahddjjmaaGreatDoor
set_option linter.unusedVariables false
set_option linter.unusedSimpArgs false

abbrev low (l : Bt) : Bt := l.map (moveB 65 97)
theorem low_rel (l : Bt) : RR (low l) l := by
  unfold RR great low
  rw [List.map_map]
  apply List.map_congr_left
  intro c _
  exact up_low c
theorem great_rel (l : Bt) : RR (great l) l := by
  unfold RR great
  rw [List.map_map]
  apply List.map_congr_left
  intro c _
  exact up_up c
theorem tag_law {s : Bt} (h : tagS s ≠ []) : ∃ r, s = tagS s ++ 32 :: r ∧ ∀ X, tagS (tagS s ++ 32 :: X) = tagS s := by
  rcases Spl.first 32 s with hn | ⟨a, b, rfl, ha⟩
  · exact absurd (by unfold tagS; rw [Spl.cut_none hn]; simp) h
  · have hc := fun X => Spl.cut_at (c := 32) (a := a) X ha
    have ht : tagS (a ++ 32 :: b) = a ∧ ∀ X, tagS (a ++ 32 :: X) = a := by
      unfold tagS at h ⊢
      rw [hc b] at h
      simp only [hc]
      by_cases h1 : a = []
      · subst h1; simp at h
      · by_cases h2 : a.all (fun c => atomB c && !decide (c = 43)) = true
        · simp only [h2, h1]
          simp
        · simp only [h2, h1] at h
          simp at h
    rw [ht.1]
    exact ⟨b, rfl, ht.2⟩
/-- APPEND stands in a text, in letters of either size. -/
def window (l : Bt) : Prop := ∃ i, i + 6 ≤ l.length ∧ great ((l.drop i).take 6) = [65, 80, 80, 69, 78, 68]
theorem window_drop {l : Bt} (n : Nat) (h : window (l.drop n)) : window l := by
  obtain ⟨i, h1, h2⟩ := h
  rw [List.length_drop] at h1
  by_cases hn : n ≤ l.length
  · refine ⟨n + i, by omega, ?_⟩
    rw [← List.drop_drop]
    exact h2
  · rw [List.drop_of_length_le (by omega)] at h2
    cases i <;> simp [great] at h2
theorem window_rel {s t : Bt} (h : RR s t) (k : window s) : window t := by
  obtain ⟨i, h1, h2⟩ := k
  refine ⟨i, by rw [← h.len]; exact h1, ?_⟩
  rw [← h2]
  exact ((h.drop i).take 6).symm
theorem window_word {s : Bt} (h : (word s).1 = [65, 80, 80, 69, 78, 68]) : window s := by
  have h2 : great (s.takeWhile letB) = [65, 80, 80, 69, 78, 68] := h
  have hl : (s.takeWhile letB).length = 6 := by
    have := congrArg List.length h2
    simpa [great] using this
  have hs : s.takeWhile letB ++ s.dropWhile letB = s := List.takeWhile_append_dropWhile
  refine ⟨0, ?_, ?_⟩
  · rw [← hs, List.length_append]; omega
  · rw [List.drop_zero]
    have : s.take 6 = s.takeWhile letB := by
      rw [← hl]
      conv => lhs; arg 2; rw [← hs]
      exact List.take_left
    rw [this]
    exact h2
theorem word_drop (s : Bt) : ∃ n, (word s).2 = s.drop n := by
  refine ⟨(s.takeWhile letB).length, ?_⟩
  have hs : s.takeWhile letB ++ s.dropWhile letB = s := List.takeWhile_append_dropWhile
  conv => rhs; arg 2; rw [← hs]
  exact List.drop_left.symm
theorem takes_drop (k s : Bt) : ∃ n, (takes k s).2 = s.drop n := by
  unfold takes
  split
  · exact ⟨_, rfl⟩
  · exact ⟨0, rfl⟩
theorem form_append : ∀ w : Bt, formK w = some 6 → w = [65, 80, 80, 69, 78, 68] := by
  intro w h
  unfold formK at h
  obtain ⟨p, hp, h6⟩ := Option.map_eq_some_iff.1 h
  have h1 := List.find?_some hp
  have h2 := List.mem_of_find?_eq_some hp
  have hall : ∀ p ∈ forms, p.2 = 6 → p.1 = [65, 80, 80, 69, 78, 68] := by decide
  rw [← hall p h2 h6]
  exact (beq_iff_eq.1 h1).symm
theorem window_head {s : Bt} (h : formK (headS s).1 = some 6) : window s := by
  have h := form_append _ h
  obtain ⟨n, hn⟩ := word_drop s
  obtain ⟨m, hm⟩ := takes_drop [32] (word s).2
  unfold headS at h
  split at h
  · have := window_word (s := (takes [32] (word s).2).2) h
    rw [hm] at this
    have := window_drop _ this
    rw [hn] at this
    exact window_drop _ this
  · exact window_word h
theorem CR.refl (a : Cm) (h : LR KR a.keys a.keys) : CR a a := ⟨rfl, rfl, rfl, rfl, rfl, rfl, rfl, h⟩
theorem parse_rest {tag : Bt} (htag : tag ≠ []) (X : Bt) (ht : tagS (tag ++ 32 :: X) = tag) : parseS (tag ++ 32 :: X) =
    match formK (headS X).1 with
    | none => ({ tag := tag }, 161)
    | some k => if (headS X).2.1 = true ∧ uidF k = false then ({ tag := tag }, 161) else
      match readF k { tag := tag, word := (headS X).1, uid := (headS X).2.1 } (headS X).2.2 with
      | some (x, []) => (x, 0)
      | _ => ({ tag := tag }, 160) := by
  unfold parseS
  rw [ht, if_neg htag]
  have hd : (tag ++ 32 :: X).drop (tag.length + 1) = X := by
    rw [show tag ++ 32 :: X = (tag ++ [32]) ++ X by simp]
    exact List.drop_left' (by simp)
  rw [hd]
  dsimp only
  cases formK (headS X).1 with
  | none => rfl
  | some k =>
    dsimp only
    by_cases h : (headS X).2.1 = true ∧ uidF k = false
    · rw [if_pos h, if_pos h]
    · rw [if_neg h, if_neg h]
      cases readF k { tag := tag, word := (headS X).1, uid := (headS X).2.1 } (headS X).2.2 with
      | none => rfl
      | some q =>
        obtain ⟨x, t⟩ := q
        cases t <;> rfl
theorem append_keeps {x y : Cm} {s t : Bt} (h : appendF x s = some (y, t)) : y.names = x.names ∧ y.items = x.items ∧ y.keys = x.keys := by
  unfold appendF at h
  obtain ⟨q, -, h⟩ := Option.bind_eq_some_iff.1 h
  obtain ⟨q2, -, h⟩ := Option.bind_eq_some_iff.1 h
  obtain ⟨q3, -, h⟩ := Option.bind_eq_some_iff.1 h
  obtain ⟨q4, -, h⟩ := Option.bind_eq_some_iff.1 h
  obtain ⟨q5, -, h⟩ := Option.map_eq_some_iff.1 h
  injection h with h1 h2
  subst h1
  exact ⟨rfl, rfl, rfl⟩
/-- What the two texts give. -/
structure Alike (a b : Cm × Int) (X : Bt) : Prop where
  names : a.1.names.length = b.1.names.length
  items : a.1.items = b.1.items
  keys : LR KR a.1.keys b.1.keys
  rest : ¬ window X → CR a.1 b.1 ∧ a.2 = b.2
theorem Alike.of {a b : Cm × Int} {X : Bt} (h : CR a.1 b.1) (e : a.2 = b.2) : Alike a b X := ⟨h.names, h.items, h.keys, fun _ => ⟨h, e⟩⟩
theorem parse_alike {tag X Y : Bt} (htag : tag ≠ []) (hx : tagS (tag ++ 32 :: X) = tag) (hy : tagS (tag ++ 32 :: Y) = tag) (h : RR X Y) : Alike (parseS (tag ++ 32 :: X)) (parseS (tag ++ 32 :: Y)) X := by
  have hh := headS_rel h
  have hw := @window_head X
  rw [parse_rest htag X hx, parse_rest htag Y hy]
  rw [hh.1] at hw ⊢
  rw [hh.2.1]
  cases hf : formK (headS Y).1 with
  | none => exact Alike.of (CR.refl _ trivial) rfl
  | some k =>
    dsimp only
    by_cases hu : (headS Y).2.1 = true ∧ uidF k = false
    · rw [if_pos hu, if_pos hu]; exact Alike.of (CR.refl _ trivial) rfl
    rw [if_neg hu, if_neg hu]
    by_cases h6 : k = 6
    · subst h6
      have hw := hw hf
      have key : ∀ Z : Bt, (match readF 6 { tag := tag, word := (headS Y).1, uid := (headS Y).2.1 } Z with
        | some (x, []) => (x, (0 : Int))
        | _ => ({ tag := tag }, 160)).1.names = [] ∧ (match readF 6 { tag := tag, word := (headS Y).1, uid := (headS Y).2.1 } Z with
        | some (x, []) => (x, (0 : Int))
        | _ => ({ tag := tag }, 160)).1.items = [] ∧ (match readF 6 { tag := tag, word := (headS Y).1, uid := (headS Y).2.1 } Z with
        | some (x, []) => (x, (0 : Int))
        | _ => ({ tag := tag }, 160)).1.keys = [] := by
        intro Z
        cases hr : readF 6 { tag := tag, word := (headS Y).1, uid := (headS Y).2.1 } Z with
        | none => exact ⟨rfl, rfl, rfl⟩
        | some q =>
          obtain ⟨x, t⟩ := q
          have hk := append_keeps (x := { tag := tag, word := (headS Y).1, uid := (headS Y).2.1 }) (s := Z) hr
          cases t with
          | nil => exact hk
          | cons _ _ => exact ⟨rfl, rfl, rfl⟩
      have k1 := key (headS X).2.2
      have k2 := key (headS Y).2.2
      exact ⟨by rw [k1.1, k2.1], by rw [k1.2.1, k2.2.1], by rw [k1.2.2, k2.2.2]; trivial, fun hn => absurd hw hn⟩
    · have hr := read_rel h6 (CR.refl { tag := tag, word := (headS Y).1, uid := (headS Y).2.1 } trivial) _ _ hh.2.2
      cases h1 : readF k { tag := tag, word := (headS Y).1, uid := (headS Y).2.1 } (headS X).2.2 with
      | none =>
        cases h2 : readF k { tag := tag, word := (headS Y).1, uid := (headS Y).2.1 } (headS Y).2.2 with
        | none => exact Alike.of (CR.refl _ trivial) rfl
        | some r => rw [h1, h2] at hr; exact hr.elim
      | some q =>
        cases h2 : readF k { tag := tag, word := (headS Y).1, uid := (headS Y).2.1 } (headS Y).2.2 with
        | none => rw [h1, h2] at hr; exact hr.elim
        | some r =>
          rw [h1, h2] at hr
          obtain ⟨x, t⟩ := q
          obtain ⟨y, u⟩ := r
          obtain ⟨h3, h4⟩ := hr
          cases t with
          | nil =>
            have : u = [] := h4.nil_left
            subst this
            exact Alike.of h3 rfl
          | cons c t =>
            obtain ⟨d, v, rfl, -, -⟩ := h4.cons
            exact Alike.of (CR.refl _ trivial) rfl
/-- The law. -/
theorem letters_law {s r : Bt} (h : tagS s ≠ []) (hs : s = tagS s ++ 32 :: r) : Alike (parseS (tagS s ++ low (32 :: r))) (parseS (tagS s ++ great (32 :: r))) (32 :: r) ∧ tagS (tagS s ++ low (32 :: r)) = tagS s ∧ tagS (tagS s ++ great (32 :: r)) = tagS s := by
  obtain ⟨r', -, hX⟩ := tag_law h
  have e1 : low (32 :: r) = 32 :: low r := by simp [low, show moveB 65 97 32 = 32 by decide]
  have e2 : great (32 :: r) = 32 :: great r := by simp [great, show moveB 97 65 32 = 32 by decide]
  rw [e1, e2]
  have hp := parse_alike h (hX (low r)) (hX (great r)) (show RR (low r) (great r) from (low_rel r).trans (great_rel r).symm)
  refine ⟨⟨hp.names, hp.items, hp.keys, fun hn => hp.rest fun hw => hn ?_⟩, hX _, hX _⟩
  exact window_drop 1 (window_rel (low_rel r) hw)
end Go.Proofs.YtfdmdmahddjjmaaGreatDoor.Im
