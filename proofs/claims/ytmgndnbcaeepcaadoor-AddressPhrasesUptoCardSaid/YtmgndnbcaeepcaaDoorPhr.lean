/-
  A phrase.
-/
import Derived.Test.YtmgndnbcaeepcaaDoorQuo
import Derived.Test.YtmgndnbcaeepcaaDoorSBuf
namespace Go.Proofs.YtmgndnbcaeepcaaDoor
open Go.RowKit Own Ad
set_option linter.unusedVariables false
set_option linter.unusedSimpArgs false
set_option maxRecDepth 100000
attribute [local go_sem] str_toList

namespace Ad
theorem blanks_len (s : List UInt8) : (blanksP s).length ≤ s.length := (List.dropWhile_sublist _).length_le
theorem qs_len : ∀ (n : Nat) (l acc t r : List UInt8), l.length ≤ n → qs acc l = some (t, r) → t.length ≤ acc.length + l.length ∧ r.length ≤ l.length
  | n, [], acc, t, r, _, h => by simp [qs] at h
  | 0, c :: l, acc, t, r, hn, _ => by simp at hn
  | n + 1, c :: l, acc, t, r, hn, h => by
    by_cases h34 : c = 34
    · subst h34
      have : some (acc, l) = some (t, r) := h
      simp only [Option.some.injEq, Prod.mk.injEq] at this
      obtain ⟨rfl, rfl⟩ := this
      simp
    · by_cases h92 : c = 92
      · subst h92
        cases l with
        | nil => cases h
        | cons x l =>
          rw [qs_esc] at h
          split at h
          · cases h
          · have := qs_len n l _ _ _ (by simp at hn; omega) h
            simp at this ⊢
            omega
      · rw [qs_other _ _ h34 h92] at h
        split at h
        · cases h
        · have := qs_len n l _ _ _ (by simp at hn; omega) h
          simp at this ⊢
          omega
theorem tw_len (p : UInt8 → Bool) (s : List UInt8) : (s.takeWhile p).length ≤ s.length := (List.takeWhile_sublist _).length_le
theorem dw_len (p : UInt8 → Bool) (s : List UInt8) : (s.dropWhile p).length ≤ s.length := (List.dropWhile_sublist _).length_le
theorem pre_head (r : List UInt8) (c : UInt8) : Lib.hasPrefix r [c] = decide (r.head? = some c) := by
  cases r with
  | nil => rfl
  | cons x t =>
    show (c == x && List.isPrefixOf [] t) = decide (some x = some c)
    rw [show List.isPrefixOf [] t = true by cases t <;> rfl, Bool.and_true]
    by_cases h : x = c
    · subst h; simp
    · rw [decide_eq_false (by simpa using h), beq_eq_false_iff_ne]
      exact fun e => h e.symm
/-- What phrase gives. -/
def PhrOk (x : List UInt8) (ok : Bool) (t : List UInt8) : Option (List (List UInt8) × List UInt8) → Prop
  | some (ws, t') => x = Lib.join ws [32] ∧ ok = decide (ws ≠ []) ∧ t = t'
  | none => ok = false
end Ad

theorem hp_any (s p : List UInt8) (w : World) : Calls Tryd.prog 42 #[.string (str s), .string (str p)] w fun e w' => e = .returned (.bool (Lib.hasPrefix s p)) ∧ w = w' := by
  refine (Tryd.strings_HasPrefix (str s) (str p) w).mono ?_
  rintro e w' ⟨rfl, rfl⟩
  exact ⟨rfl, rfl⟩
def lenOf : Value → Nat
  | .slice _ n _ => n
  | _ => 0

set_option maxHeartbeats 4000000 in
theorem phrase_any (F b : Nat) (s : List UInt8) (w : World) (O : Option (List (List UInt8) × List UInt8)) (hO : phr F [] s = some O) (h : RdAt w b s) (hF : F ≤ 1000000) (hs : s.length ≤ 1000000) :
    Calls Tryd.prog 27 #[.pointer (some ⟨b, 0, none⟩)] w fun e w' => ∃ x ok t, e = .returned (.tuple #[.string (str x), .bool ok]) ∧ RdAt w' b t ∧ Only b w w' ∧ PhrOk x ok t O := by
  have hb := h.lt
  have H := hid h
  have HO := hid hO
  clear h hO
  go_enter Tryd.func27, Tryd.ntmps27
  go_wp2_with fail
  go_loopw [4] (fun v4 wr => ∃ (f : Nat) (ws : List (List UInt8)) (r : List UInt8), f + ws.length = F ∧ phr f ws r = some O ∧ (∀ x ∈ ws, x.length ≤ s.length) ∧ r.length ≤ s.length ∧ RdAt wr b r ∧ SBuf w.heap.size wr v4 ws ∧ Only b w wr) (fun v4 _ => F + 1 - lenOf v4)
  case atStart => exact ⟨F, [], s, by simp, HO.out, by simp, Nat.le_refl _, H.out, SBuf.nil (Nat.le_refl _), Only.refl _ _⟩
  case round =>
    obtain ⟨f, ws, r, hf, hp, hws, hr, hrd, hbuf, hon⟩ := hrel
    obtain ⟨A4, c4, rfl, hc4, hA4, hs4⟩ := hbuf.full
    have hwl : ws.length ≤ 1000000 := by omega
    cases f with
    | zero => cases hp
    | succ f =>
    have hc0 := hrd.c
    have HR := hid hrd
    have HB := hid hbuf
    have HN := hid hon
    have HW := hid hws
    have h60 := fun W => hp_any r [60] W
    have h34 := fun W => hp_any r [34] W
    rw [pre_head] at h60 h34
    have hp2 : (if r.head? = some 60 then some (some (ws, r)) else match word r with
      | none => some none
      | some (x, t) => phr f (ws ++ [x]) (blanksP t)) = some O := hp
    clear hrd hbuf hon hws hp
    by_cases q60 : r.head? = some 60
    · rw [if_pos q60] at hp2
      obtain rfl : some (ws, r) = O := by simpa using hp2
      rw [decide_eq_true q60] at h60
      have hjl : (Lib.join ws [32]).length ≤ 140737488355328 := by
        have h1 := join_len [32] s.length ws HW.out
        have h2 : ws.length * (s.length + [(32 : UInt8)].length) ≤ 1000000 * (1000000 + 1) := Nat.mul_le_mul hwl (by simp; omega)
        omega
      have hj := fun W hA hs => join_any A4 ws.length c4 ws W rfl hc4 hA hs hwl hjl
      clear hp2 q60 h34 hjl
      go_wp2_with (first
        | (go_at_call 42; refine (h60 _).mono ?_; rintro e w1 ⟨rfl, rfl⟩)
        | (go_at_call 45; refine (hj _ hA4 (fun p hp => by obtain ⟨g, rfl, _, hc⟩ := hs4 p hp; exact ⟨g, rfl, hc⟩)).mono ?_; rintro e w1 ⟨rfl, d1⟩; have D1 := hid d1; clear d1))
      refine bodyPost_ret (v := .tuple #[.string (str (Lib.join ws [32])), .bool (decide (0 < ws.length))]) (by simp [results, Tryd.results27, go_sem]) rfl ⟨_, _, r, rfl, HR.out.below D1.out, HN.out.trans (Only.of D1.out (Nat.le_of_lt HR.out.lt)), rfl, decide_eq_decide.2 List.length_pos_iff, rfl⟩
    · rw [if_neg q60] at hp2
      rw [decide_eq_false q60] at h60
      have tok0 : Tk 0 := ⟨⟩
      have hnext : ∀ (x t : List UInt8), x.length ≤ s.length → t.length ≤ s.length → Hid (f + (ws ++ [x]).length = F) ∧ Hid (∀ y ∈ ws ++ [x], y.length ≤ s.length) ∧ Hid ((blanksP t).length ≤ s.length) := fun x t h1 h2 => by
        refine ⟨hid (by simp; omega), hid (fun y hy => ?_), hid (Nat.le_trans (blanks_len t) h2)⟩
        rcases List.mem_append.1 hy with h | h
        · exact HW.out y h
        · simp at h; subst h; exact h1
      by_cases q34 : r.head? = some 34
      · rw [decide_eq_true q34] at h34
        have hqd := fun W h => quoted_any b r W h (by omega)
        have hw : word r = qs [] r.tail := by unfold word; rw [if_pos q34]
        rw [hw] at hp2
        cases hq : qs [] r.tail with
        | none =>
          rw [hq] at hqd hp2
          obtain rfl : none = O := by simpa using hp2
          dsimp only [qres] at hqd
          clear hp2 q60 q34 hw hq hnext
          go_wp2_with (first
          | (go_at_call 42; have t_ : Tk 0 := ‹Tk 0›; refine (h60 _).mono ?_; rintro e w1 ⟨rfl, rfl⟩; clear t_; clear tok0; have tok1 : Tk 1 := ⟨⟩)
          | (go_at_call 42; have t_ : Tk 1 := ‹Tk 1›; refine (h34 _).mono ?_; rintro e w1 ⟨rfl, rfl⟩; clear t_; clear tok1; have tok2 : Tk 2 := ⟨⟩)
          | (go_at_call 44; refine (hqd _ HR.out).mono ?_; rintro e w2 ⟨rfl, r2, o2⟩; have R2 := hid r2; have B2 := hid (HB.out.only o2 hb); have N2 := hid (HN.out.trans o2); clear r2 o2))
          refine bodyPost_ret (v := .tuple #[.string (str []), .bool false]) (by first | (simp [results, Tryd.results27, go_sem]; done) | (simp [results, Tryd.results27, go_sem]; rfl)) rfl ⟨_, _, _, rfl, R2.out, N2.out, rfl⟩
        | some o =>
          obtain ⟨x, t⟩ := o
          rw [hq] at hqd hp2
          dsimp only [qres] at hqd
          have hl := qs_len r.tail.length r.tail [] x t (Nat.le_refl _) hq
          have hl2 : r.tail.length ≤ r.length := by simp
          obtain ⟨HF2, HW2, HL2⟩ := hnext x t (by simp at hl; omega) (by omega)
          have HP2 : Hid (phr f (ws ++ [x]) (blanksP t) = some O) := hid hp2
          clear hp2 q60 q34 hw hq hnext hl hl2
          go_wp2_with (first
          | (go_at_call 42; have t_ : Tk 0 := ‹Tk 0›; refine (h60 _).mono ?_; rintro e w1 ⟨rfl, rfl⟩; clear t_; clear tok0; have tok1 : Tk 1 := ⟨⟩)
          | (go_at_call 42; have t_ : Tk 1 := ‹Tk 1›; refine (h34 _).mono ?_; rintro e w1 ⟨rfl, rfl⟩; clear t_; clear tok1; have tok2 : Tk 2 := ⟨⟩)
          | (go_at_call 44; refine (hqd _ HR.out).mono ?_; rintro e w2 ⟨rfl, r2, o2⟩; have R2 := hid r2; have B2 := hid (HB.out.only o2 hb); have N2 := hid (HN.out.trans o2); clear r2 o2)
          | (at_builtin; refine wpList_sbuf w.heap.size _ rfl _ _ rfl _ ws x rfl (B2.out.alloc _) _ 1 rfl (slit _ x _ _ _ rfl rfl) (by omega) ?_; intro v3 w3 hb3 he3; have B3 := hid hb3; have R3 := hid ((R2.out.below ((Below.refl _ _).alloc (Nat.le_refl _) _)).below' he3 hb); have N3 := hid ((N2.out.trans (Only.of ((Below.refl _ _).alloc (Nat.le_refl _) _) (Nat.le_of_lt R2.out.lt))).trans' he3 hb (Nat.le_refl _)); clear hb3 he3)
          | (go_at_call 25; refine (blanks_any b _ _ R3.out).mono ?_; rintro e w4 ⟨rfl, r4, o4⟩; have R4 := hid r4; have B4 := hid (B3.out.only o4 hb); have N4 := hid (N3.out.trans o4); clear r4 o4))
          obtain ⟨A5, c5, rfl, -, -, -⟩ := B4.out.full
          go_roundw
          case rel => exact ⟨f, ws ++ [x], blanksP t, HF2.out, HP2.out, HW2.out, HL2.out, R4.out, B4.out, N4.out⟩
          case measure => simp [lenOf]; omega
      · rw [decide_eq_false q34] at h34
        have hqd := fun W h => plain_any b r W h (by omega)
        have hw : word r = if (r.takeWhile isPl).length = 0 then none else some (r.takeWhile isPl, r.dropWhile isPl) := by unfold word; rw [if_neg q34]
        rw [hw] at hp2
        have hl1 := tw_len isPl r
        have hl2 := dw_len isPl r
        obtain ⟨x, hx⟩ : ∃ x, x = r.takeWhile isPl := ⟨_, rfl⟩
        obtain ⟨t, ht⟩ : ∃ t, t = r.dropWhile isPl := ⟨_, rfl⟩
        rw [← hx, ← ht] at hp2 hqd
        rw [← hx] at hl1
        rw [← ht] at hl2
        by_cases q0 : x.length = 0
        · rw [if_pos q0] at hp2
          obtain rfl : none = O := by simpa using hp2
          have e0 : decide (0 < x.length) = false := decide_eq_false (by omega)
          rw [e0] at hqd
          clear hp2 q60 q34 hw hnext hx ht hl1 hl2 q0 e0
          go_wp2_with (first
          | (go_at_call 42; have t_ : Tk 0 := ‹Tk 0›; refine (h60 _).mono ?_; rintro e w1 ⟨rfl, rfl⟩; clear t_; clear tok0; have tok1 : Tk 1 := ⟨⟩)
          | (go_at_call 42; have t_ : Tk 1 := ‹Tk 1›; refine (h34 _).mono ?_; rintro e w1 ⟨rfl, rfl⟩; clear t_; clear tok1; have tok2 : Tk 2 := ⟨⟩)
          | (go_at_call 43; refine (hqd _ HR.out).mono ?_; rintro e w2 ⟨rfl, r2, o2⟩; have R2 := hid r2; have B2 := hid (HB.out.only o2 hb); have N2 := hid (HN.out.trans o2); clear r2 o2))
          refine bodyPost_ret (v := .tuple #[.string (str []), .bool false]) (by first | (simp [results, Tryd.results27, go_sem]; done) | (simp [results, Tryd.results27, go_sem]; rfl)) rfl ⟨_, _, _, rfl, R2.out, N2.out, rfl⟩
        · rw [if_neg q0] at hp2
          have e0 : decide (0 < x.length) = true := decide_eq_true (by omega)
          rw [e0] at hqd
          obtain ⟨HF2, HW2, HL2⟩ := hnext x t (by omega) (by omega)
          have HP2 : Hid (phr f (ws ++ [x]) (blanksP t) = some O) := hid hp2
          clear hp2 q60 q34 hw hnext hx ht hl1 hl2 q0 e0
          go_wp2_with (first
          | (go_at_call 42; have t_ : Tk 0 := ‹Tk 0›; refine (h60 _).mono ?_; rintro e w1 ⟨rfl, rfl⟩; clear t_; clear tok0; have tok1 : Tk 1 := ⟨⟩)
          | (go_at_call 42; have t_ : Tk 1 := ‹Tk 1›; refine (h34 _).mono ?_; rintro e w1 ⟨rfl, rfl⟩; clear t_; clear tok1; have tok2 : Tk 2 := ⟨⟩)
          | (go_at_call 43; refine (hqd _ HR.out).mono ?_; rintro e w2 ⟨rfl, r2, o2⟩; have R2 := hid r2; have B2 := hid (HB.out.only o2 hb); have N2 := hid (HN.out.trans o2); clear r2 o2)
          | (at_builtin; refine wpList_sbuf w.heap.size _ rfl _ _ rfl _ ws x rfl (B2.out.alloc _) _ 1 rfl (slit _ x _ _ _ rfl rfl) (by omega) ?_; intro v3 w3 hb3 he3; have B3 := hid hb3; have R3 := hid ((R2.out.below ((Below.refl _ _).alloc (Nat.le_refl _) _)).below' he3 hb); have N3 := hid ((N2.out.trans (Only.of ((Below.refl _ _).alloc (Nat.le_refl _) _) (Nat.le_of_lt R2.out.lt))).trans' he3 hb (Nat.le_refl _)); clear hb3 he3)
          | (go_at_call 25; refine (blanks_any b _ _ R3.out).mono ?_; rintro e w4 ⟨rfl, r4, o4⟩; have R4 := hid r4; have B4 := hid (B3.out.only o4 hb); have N4 := hid (N3.out.trans o4); clear r4 o4))
          obtain ⟨A5, c5, rfl, -, -, -⟩ := B4.out.full
          go_roundw
          case rel => exact ⟨f, ws ++ [x], blanksP t, HF2.out, HP2.out, HW2.out, HL2.out, R4.out, B4.out, N4.out⟩
          case measure => simp [lenOf]; omega

end Go.Proofs.YtmgndnbcaeepcaaDoor
