/-
  Letters; runs of them; words; numbers.
-/
import Derived.Test.YtfdmdmahddjjmaaGreatDoorKImA
import Derived.Test.YtfdmdmahddjjmaaGreatDoorPkAd
import Derived.LoopTactic
namespace Go.Proofs.YtfdmdmahddjjmaaGreatDoor
open Go.RowKit Own Im
set_option linter.unusedVariables false
set_option linter.unusedSimpArgs false
set_option maxRecDepth 100000
attribute [local go_sem] str_toList str_size

theorem dg_cases (c : UInt8) : (c.toNat : Int) < 48 ∧ isDg c = false ∨ 48 ≤ (c.toNat : Int) ∧ (c.toNat : Int) ≤ 57 ∧ isDg c = true ∨ 57 < (c.toNat : Int) ∧ isDg c = false := by
  unfold isDg
  rcases Nat.lt_or_ge c.toNat 48 with h | h
  · exact .inl ⟨by omega, by simp; omega⟩
  rcases Nat.lt_or_ge 57 c.toNat with h2 | h2
  · exact .inr (.inr ⟨by omega, by simp; omega⟩)
  · exact .inr (.inl ⟨by omega, by omega, by simp; omega⟩)
theorem digit_any (c : UInt8) (w : World) :
    Calls Tryz.prog 89 #[.int .u8 c.toNat] w fun e w' => e = .returned (.bool (isDg c)) ∧ w = w' := by
  rcases dg_cases c with ⟨h1, hr⟩ | ⟨h1, h2, hr⟩ | ⟨h1, hr⟩
  all_goals
    rw [hr]
    clear hr
    go_enter Tryz.func89, Tryz.ntmps89
    go_wp2
    go_ret
    exact ⟨by first | rfl | (simp; omega), rfl⟩

theorem let_cases (c : UInt8) : (c.toNat : Int) < 65 ∧ (letB c = (isDg c || decide (c = 46))) ∨ 65 ≤ (c.toNat : Int) ∧ (c.toNat : Int) ≤ 90 ∧ letB c = true ∨ 90 < (c.toNat : Int) ∧ (c.toNat : Int) < 97 ∧ (letB c = (isDg c || decide (c = 46))) ∨ 97 ≤ (c.toNat : Int) ∧ (c.toNat : Int) ≤ 122 ∧ letB c = true ∨ 122 < (c.toNat : Int) ∧ (letB c = (isDg c || decide (c = 46))) := by
  unfold letB
  rcases Nat.lt_or_ge c.toNat 65 with h | h
  · exact .inl ⟨by omega, by rw [decide_eq_false (p := 97 ≤ c.toNat) (by omega), decide_eq_false (p := 65 ≤ c.toNat) (by omega)]; simp⟩
  rcases Nat.lt_or_ge 90 c.toNat with h2 | h2
  · rcases Nat.lt_or_ge c.toNat 97 with h3 | h3
    · exact .inr (.inr (.inl ⟨by omega, by omega, by rw [decide_eq_false (p := 97 ≤ c.toNat) (by omega), decide_eq_false (p := c.toNat ≤ 90) (by omega)]; simp⟩))
    rcases Nat.lt_or_ge 122 c.toNat with h4 | h4
    · exact .inr (.inr (.inr (.inr ⟨by omega, by rw [decide_eq_false (p := c.toNat ≤ 122) (by omega), decide_eq_false (p := c.toNat ≤ 90) (by omega)]; simp⟩)))
    · exact .inr (.inr (.inr (.inl ⟨by omega, by omega, by rw [decide_eq_true (p := 97 ≤ c.toNat) h3, decide_eq_true (p := c.toNat ≤ 122) h4]; simp⟩)))
  · exact .inr (.inl ⟨by omega, by omega, by rw [decide_eq_true (p := 65 ≤ c.toNat) h, decide_eq_true (p := c.toNat ≤ 90) h2]; simp⟩)
theorem byte_eq (c : UInt8) (k : Nat) (hk : k < 256) : ((c.toNat : Int) == (k : Int)) = decide (c = k.toUInt8) := by
  show decide ((c.toNat : Int) = (k : Int)) = _
  by_cases h : c = k.toUInt8
  · rw [decide_eq_true h, decide_eq_true]
    rw [h]
    have : k.toUInt8.toNat = k := by rw [Nat.toUInt8, UInt8.toNat_ofNat']; omega
    rw [this]
  · rw [decide_eq_false h, decide_eq_false]
    intro hh
    apply h
    have h2 : c.toNat = k := by omega
    rw [← h2]
    simp
theorem letter_any (c : UInt8) (w : World) :
    Calls Tryz.prog 47 #[.int .u8 c.toNat] w fun e w' => e = .returned (.bool (letB c)) ∧ w = w' := by
  have hdg := fun W => digit_any c W
  have h46 : ((c.toNat : Int) == 46) = decide (c = 46) := byte_eq c 46 (by decide)
  obtain ⟨D, hD⟩ : ∃ D, D = isDg c := ⟨_, rfl⟩
  obtain ⟨E, hE⟩ : ∃ E, E = decide (c = 46) := ⟨_, rfl⟩
  rw [← hD] at hdg
  rw [← hE] at h46
  rcases let_cases c with ⟨h1, hr⟩ | ⟨h1, h2, hr⟩ | ⟨h1, h2, hr⟩ | ⟨h1, h2, hr⟩ | ⟨h1, hr⟩
  all_goals
    rw [hr]
    clear hr
    try rw [← hD, ← hE]
    clear hD hE
    cases D
    all_goals
      go_enter Tryz.func47, Tryz.ntmps47
      go_wp2_with (go_at_call 89; refine (hdg _).mono ?_; rintro e w1 ⟨rfl, rfl⟩)
      go_ret
      exact ⟨by first | rfl | (rw [h46]; rfl) | (simp [h46]; done) | (simp [h46]; intros; omega) | (simp; omega), rfl⟩

/-- IndexByte in a text that is written out. -/
theorem index_in (l : Bt) (c : UInt8) (w : World) : ∃ k : Int, ((l.contains c = true ∧ 0 ≤ k) ∨ (l.contains c = false ∧ k < 0)) ∧
    Calls Tryz.prog 44 #[.string (str l), .int .u8 c.toNat] w fun e w' => e = .returned (.int .i64 k) ∧ w = w' := by
  refine ⟨Lib.indexByte l c, ?_, ?_⟩
  · rcases indexByte_mem l c with ⟨h1, h2⟩ | ⟨h1, h2⟩
    · exact .inl ⟨by simpa using h1, h2⟩
    · exact .inr ⟨by simpa using h1, by omega⟩
  · refine (Tryz.strings_IndexByte (str l) c.toNat w).mono ?_
    rintro e w' ⟨rfl, rfl⟩
    refine ⟨?_, rfl⟩
    have : ((c.toNat : Int).toNat).toUInt8 = c := by simp
    rw [this]
    rfl
theorem atom_range (c : UInt8) : ((c.toNat : Int) ≤ 32 ∨ 126 < (c.toNat : Int)) ∧ atomB c = false ∨ 32 < (c.toNat : Int) ∧ (c.toNat : Int) ≤ 126 ∧ atomB c = !([40, 41, 123, 37, 42, 34, 92] : Bt).contains c := by
  unfold atomB
  rcases Nat.lt_or_ge 32 c.toNat with h | h
  · rcases Nat.lt_or_ge 126 c.toNat with h2 | h2
    · exact .inl ⟨.inr (by omega), by rw [decide_eq_false (p := c.toNat ≤ 126) (by omega)]; simp⟩
    · exact .inr ⟨by omega, by omega, by rw [decide_eq_true (p := 32 < c.toNat) h, decide_eq_true (p := c.toNat ≤ 126) h2]; simp⟩
  · exact .inl ⟨.inl (by omega), by rw [decide_eq_false (p := 32 < c.toNat) (by omega)]; simp⟩
theorem atomc_any (c : UInt8) (w : World) :
    Calls Tryz.prog 23 #[.int .u8 c.toNat] w fun e w' => e = .returned (.bool (atomB c)) ∧ w = w' := by
  rcases atom_range c with ⟨h1 | h1, hr⟩ | ⟨h1, h2, hr⟩
  · rw [hr]
    clear hr
    go_enter Tryz.func23, Tryz.ntmps23
    go_wp2
    go_ret
    exact ⟨rfl, rfl⟩
  · rw [hr]
    clear hr
    go_enter Tryz.func23, Tryz.ntmps23
    go_wp2
    go_ret
    exact ⟨rfl, rfl⟩
  · rw [hr]
    clear hr
    obtain ⟨k, hk | hk, hx⟩ := index_in [40, 41, 123, 37, 42, 34, 92] c w
    all_goals
      obtain ⟨hk1, hk2⟩ := hk
      rw [hk1]
      clear hk1
      go_enter Tryz.func23, Tryz.ntmps23
      go_wp2_with (go_at_call 44; refine hx.mono ?_; rintro e w1 ⟨rfl, rfl⟩)
      go_ret
      exact ⟨by first | rfl | (simp; omega), rfl⟩
theorem pattern_any (c : UInt8) (w : World) :
    Calls Tryz.prog 55 #[.int .u8 c.toNat] w fun e w' => e = .returned (.bool (patB c)) ∧ w = w' := by
  have hat := fun W => atomc_any c W
  have h37 : ((c.toNat : Int) == 37) = decide (c = 37) := byte_eq c 37 (by decide)
  have h42 : ((c.toNat : Int) == 42) = decide (c = 42) := byte_eq c 42 (by decide)
  obtain ⟨D, hD⟩ : ∃ D, D = atomB c := ⟨_, rfl⟩
  obtain ⟨E, hE⟩ : ∃ E, E = decide (c = 37) := ⟨_, rfl⟩
  obtain ⟨F, hF⟩ : ∃ F, F = decide (c = 42) := ⟨_, rfl⟩
  unfold patB
  rw [← hD] at hat
  rw [← hD, ← hE, ← hF]
  rw [← hE] at h37
  rw [← hF] at h42
  clear hD hE hF
  cases D <;> cases E <;> cases F
  all_goals
    go_enter Tryz.func55, Tryz.ntmps55
    go_wp2_with (go_at_call 23; refine (hat _).mono ?_; rintro e w1 ⟨rfl, rfl⟩)
    go_ret
    exact ⟨by first | rfl | (simp [h37, h42]) | (simp; omega), rfl⟩
theorem ranged_any (c : UInt8) (w : World) :
    Calls Tryz.prog 99 #[.int .u8 c.toNat] w fun e w' => e = .returned (.bool (rangedB c)) ∧ w = w' := by
  have hdg := fun W => digit_any c W
  unfold rangedB
  obtain ⟨D, hD⟩ : ∃ D, D = isDg c := ⟨_, rfl⟩
  rw [← hD] at hdg
  rw [← hD]
  clear hD
  obtain ⟨k, hk | hk, hx⟩ := index_in [42, 58, 44] c w
  all_goals
    obtain ⟨hk1, hk2⟩ := hk
    rw [hk1]
    clear hk1
    cases D
    all_goals
      go_enter Tryz.func99, Tryz.ntmps99
      go_wp2_with (first
        | (go_at_call 89; refine (hdg _).mono ?_; rintro e w1 ⟨rfl, rfl⟩)
        | (go_at_call 44; refine hx.mono ?_; rintro e w1 ⟨rfl, rfl⟩))
      go_ret
      exact ⟨by first | rfl | (simp; omega), rfl⟩

theorem run_at {p : UInt8 → Bool} {s : Bt} {i : Nat} {c : UInt8} (hi : i ≤ (s.takeWhile p).length) (hc : s[i]? = some c) : (p c = true → i < (s.takeWhile p).length) ∧ (p c = false → i = (s.takeWhile p).length) := by
  induction s generalizing i with
  | nil => simp at hc
  | cons a t ih =>
    rw [List.takeWhile_cons] at hi ⊢
    cases ha : p a with
    | false =>
      rw [ha] at hi
      have : i = 0 := by simpa using hi
      subst this
      obtain rfl : a = c := by simpa using hc
      exact ⟨fun h => (by rw [ha] at h; cases h), fun _ => by simp⟩
    | true =>
      rw [ha] at hi
      cases i with
      | zero =>
        obtain rfl : a = c := by simpa using hc
        exact ⟨fun _ => by simp, fun h => (by rw [ha] at h; cases h)⟩
      | succ j =>
        have := ih (i := j) (by simpa using hi) (by simpa using hc)
        simpa using this
theorem run_take (p : UInt8 → Bool) (s : Bt) : s.take (s.takeWhile p).length = s.takeWhile p := by
  have h := List.takeWhile_append_dropWhile (p := p) (l := s)
  conv => lhs; arg 2; rw [← h]
  rw [List.take_left' rfl]
theorem run_drop (p : UInt8 → Bool) (s : Bt) : s.drop (s.takeWhile p).length = s.dropWhile p := by
  have h := List.takeWhile_append_dropWhile (p := p) (l := s)
  conv => lhs; arg 2; rw [← h]
  rw [List.drop_left' rfl]
theorem run_len (p : UInt8 → Bool) (s : Bt) : (s.takeWhile p).length ≤ s.length := (List.takeWhile_prefix p).length_le
theorem rest_len (p : UInt8 → Bool) (s : Bt) : (s.dropWhile p).length ≤ s.length := (List.dropWhile_suffix p).length_le

set_option maxHeartbeats 1000000 in
theorem run_any (f : FuncId) (p : UInt8 → Bool) (he : ∀ args w, (callFunc f args).run Tryz.prog w = .ok (.enter f args) w)
    (hf : ∀ (c : UInt8) (W : World), Calls Tryz.prog f #[.int .u8 c.toNat] W fun e W' => e = .returned (.bool (p c)) ∧ W = W') (b : Nat) (s : Bt) (w : World) (h : RdI w b s) :
    Calls Tryz.prog 46 #[.pointer (some ⟨b, 0, none⟩), .func (.func f) #[] #[]] w fun e w' => e = .returned (.string (str (s.takeWhile p))) ∧ RdI w' b (s.dropWhile p) ∧ Only b w w' := by
  have hsz := str_size s
  have hlen := h.len
  have h0 := h.c
  have f0 := h.free
  obtain ⟨k, hk⟩ : ∃ k, k = (s.takeWhile p).length := ⟨_, rfl⟩
  have hkl : k ≤ s.length := by rw [hk]; exact run_len p s
  have x1 : (str s).extract 0 k = str (s.takeWhile p) := by rw [str_upto, hk, run_take]
  have x2 : (str s).extract k s.length = str (s.dropWhile p) := by rw [str_from s k s.length rfl, hk, run_drop]
  have H := hid h
  have HK := hid hk
  have X1 := hid x1
  have X2 := hid x2
  clear h hk x1 x2
  go_enter Tryz.func46, Tryz.ntmps46
  go_wp2_with fail
  go_loop [5] (fun v5 => ∃ i : Nat, i ≤ k ∧ v5 = .int .i64 i) (fun v5 => s.length - (intOf v5).toNat)
  case atStart => exact ⟨0, Nat.zero_le _, rfl⟩
  case round =>
    obtain ⟨i, hi, rfl⟩ := hrel
    by_cases hil : i < s.length
    · obtain ⟨c, hc⟩ : ∃ c, s[i]? = some c := ⟨_, List.getElem?_eq_getElem hil⟩
      have hix := str_ix hc
      have hkk := run_at (p := p) (by rw [HK.out] at hi; exact hi) hc
      rw [← HK.out] at hkk
      have hfc := fun W => hf c W
      cases hp : p c with
      | true =>
        rw [hp] at hfc
        have hlt := hkk.1 hp
        clear hkk hp hc
        go_wp2_with (refine (hfc _).mono ?_; rintro e w1 ⟨rfl, rfl⟩)
        go_round
        case rel => exact ⟨i + 1, by omega, by go_num⟩
        case measure => simp [intOf]; omega
      | false =>
        rw [hp] at hfc
        obtain rfl := hkk.2 hp
        clear hkk hp hc
        go_wp2_with (refine (hfc _).mono ?_; rintro e w1 ⟨rfl, rfl⟩)
        go_ret
        refine ⟨?_, ?_, Only.set _ _ _ _⟩
        · rw [X1.out]
          rfl
        · rw [X2.out]
          exact H.out.set _ (rest_len p s)
    · obtain rfl : i = s.length := by omega
      obtain rfl : k = s.length := by omega
      go_wp2_with fail
      go_ret
      refine ⟨?_, ?_, Only.set _ _ _ _⟩
      · rw [X1.out]
        rfl
      · have hd : s.dropWhile p = [] := by rw [← run_drop, ← HK.out, List.drop_length]
        rw [hd]
        exact H.out.set [] (Nat.zero_le _)

theorem word_any (b : Nat) (s : Bt) (w : World) (h : RdI w b s) :
    Calls Tryz.prog 25 #[.pointer (some ⟨b, 0, none⟩)] w fun e w' => e = .returned (.string (str (word s).1)) ∧ RdI w' b (word s).2 ∧ Only b w w' := by
  have hrun := fun W hW => run_any 47 letB (enters_of Tryz.func47 (by kernel_rfl) rfl) letter_any b s W hW
  have hgr := fun W => great_any (s.takeWhile letB) W (by have := run_len letB s; have := h.len; omega)
  have H := hid h
  clear h
  go_enter Tryz.func25, Tryz.ntmps25
  go_wp2_with (first
    | (go_at_call 46; refine (hrun _ H.out).mono ?_; rintro e w1 ⟨rfl, r1, o1⟩; have R1 := hid r1; have O1 := hid o1; clear r1 o1)
    | (go_at_call 45; refine (hgr _).mono ?_; rintro e w2 ⟨rfl, b2⟩; have B2 := hid b2; clear b2))
  go_ret
  exact ⟨rfl, R1.out.below B2.out, O1.out.trans (Only.of B2.out (Nat.le_of_lt R1.out.lt))⟩

theorem num_any (b : Nat) (s : Bt) (lo hi : Int) (w : World) (h : RdI w b s) :
    Calls Tryz.prog 103 #[.pointer (some ⟨b, 0, none⟩), .int .i64 lo, .int .i64 hi] w fun e w' => Reads b w vInt (number lo hi s) e w' := by
  have hrun := fun W hW => run_any 89 isDg (enters_of Tryz.func89 (by kernel_rfl) rfl) digit_any b s W hW
  have hnm := fun W (hW : RdI W b (s.dropWhile isDg)) => number_any (s.takeWhile isDg) hi W hW.good.good
  have e0 : number lo hi s = if (Dec.numR (s.takeWhile isDg) hi).2 = true ∧ lo ≤ (Dec.numR (s.takeWhile isDg) hi).1 then some ((Dec.numR (s.takeWhile isDg) hi).1, s.dropWhile isDg) else none := rfl
  rw [e0]
  clear e0
  obtain ⟨n, ok, hq⟩ : ∃ n ok, Dec.numR (s.takeWhile isDg) hi = (n, ok) := ⟨_, _, rfl⟩
  rw [hq] at hnm ⊢
  have H := hid h
  clear h hq
  cases ok with
  | false =>
    rw [if_neg (by simp)]
    go_enter Tryz.func103, Tryz.ntmps103
    go_wp2_with (first
      | (go_at_call 46; refine (hrun _ H.out).mono ?_; rintro e w1 ⟨rfl, r1, o1⟩; have R1 := hid r1; have O1 := hid o1; clear r1 o1)
      | (go_at_call 31; refine (hnm _ R1.out).mono ?_; rintro e w2 ⟨rfl, b2⟩; have B2 := hid b2; clear b2)
      | (go_at_call 28; refine (must_f _).mono ?_; rintro e w3 ⟨rfl, rfl⟩))
    exact ⟨rfl, O1.out.trans (Only.of B2.out (Nat.le_of_lt R1.out.lt)), rfl⟩
  | true =>
    by_cases hlo : lo ≤ n
    · have d0 : decide (lo ≤ n) = true := decide_eq_true hlo
      rw [if_pos ⟨rfl, hlo⟩]
      go_enter Tryz.func103, Tryz.ntmps103
      go_wp2_with (first
        | (go_at_call 46; refine (hrun _ H.out).mono ?_; rintro e w1 ⟨rfl, r1, o1⟩; have R1 := hid r1; have O1 := hid o1; clear r1 o1)
        | (go_at_call 31; refine (hnm _ R1.out).mono ?_; rintro e w2 ⟨rfl, b2⟩; have B2 := hid b2; clear b2)
        | (go_at_call 28; refine (must_t _).mono ?_; rintro e w3 ⟨rfl, rfl⟩))
      go_ret
      exact ⟨O1.out.trans (Only.of B2.out (Nat.le_of_lt R1.out.lt)), _, rfl, rfl, R1.out.below B2.out⟩
    · have d0 : decide (lo ≤ n) = false := decide_eq_false hlo
      rw [if_neg (fun c => hlo c.2)]
      go_enter Tryz.func103, Tryz.ntmps103
      go_wp2_with (first
        | (go_at_call 46; refine (hrun _ H.out).mono ?_; rintro e w1 ⟨rfl, r1, o1⟩; have R1 := hid r1; have O1 := hid o1; clear r1 o1)
        | (go_at_call 31; refine (hnm _ R1.out).mono ?_; rintro e w2 ⟨rfl, b2⟩; have B2 := hid b2; clear b2)
        | (go_at_call 28; refine (must_f _).mono ?_; rintro e w3 ⟨rfl, rfl⟩))
      exact ⟨rfl, O1.out.trans (Only.of B2.out (Nat.le_of_lt R1.out.lt)), rfl⟩
end Go.Proofs.YtfdmdmahddjjmaaGreatDoor
