/-
  Texts between two quotes.
-/
import Derived.Test.YtfdmdmahddjjmaaGreatDoorKImV
namespace Go.Proofs.YtfdmdmahddjjmaaGreatDoor
open Go.RowKit Own Im
set_option linter.unusedVariables false
set_option linter.unusedSimpArgs false
set_option maxRecDepth 100000
attribute [local go_sem] str_toList str_size

theorem pre_one (c a : UInt8) (t : Bt) : Lib.hasPrefix (a :: t) [c] = decide (a = c) := by
  unfold Lib.hasPrefix
  simp [List.isPrefixOf]
  by_cases h : a = c
  · subst h; simp
  · rw [decide_eq_false h]; simpa using fun k => h k.symm
theorem pre_nil (c : UInt8) : Lib.hasPrefix [] [c] = false := by
  unfold Lib.hasPrefix
  rfl

theorem sees_nil (b : Nat) (c : UInt8) (w : World) (h : RdI w b []) : Calls Tryz.prog 91 #[.pointer (some ⟨b, 0, none⟩), .string (str [c])] w fun e w' => e = .returned (.bool false) ∧ w' = w := by
  have := sees_any b [] [c] w h
  rw [pre_nil] at this
  exact this
theorem sees_one (b : Nat) (d : UInt8) (t : Bt) (c : UInt8) (w : World) (h : RdI w b (d :: t)) : Calls Tryz.prog 91 #[.pointer (some ⟨b, 0, none⟩), .string (str [c])] w fun e w' => e = .returned (.bool (decide (d = c))) ∧ w' = w := by
  have := sees_any b (d :: t) [c] w h
  rw [pre_one] at this
  exact this

namespace Im
theorem quote_end (t : Bt) : quoteL (34 :: t) = some ([], t) := by rw [quoteL.eq_def]; simp
theorem quote_escNil : quoteL [92] = none := by rw [quoteL.eq_def]; simp
theorem quote_esc (d : UInt8) (t : Bt) : quoteL (92 :: d :: t) = if d = 34 ∨ d = 92 then (quoteL t).map (fun q => (d :: q.1, q.2)) else none := by rw [quoteL.eq_def]; simp
theorem quote_other {c : UInt8} (t : Bt) (h1 : c ≠ 34) (h2 : c ≠ 92) : quoteL (c :: t) = if c = 13 ∨ c = 10 then none else (quoteL t).map (fun q => (c :: q.1, q.2)) := by rw [quoteL.eq_def]; simp [h1, h2]
end Im
theorem Bld.only {B bk b : Nat} {l : Bt} {w w' : World} (h : Bld B bk l w) (ho : Only b w w') (hb : b < B) : Bld B bk l w' := by
  refine ⟨?_, Nat.le_trans h.2 ho.size⟩
  have one : ∀ (v1 : Value), Lib.BuilderAt 93 5 B bk v1 (Lib.byteCells l) w → Lib.BuilderAt 93 5 B bk v1 (Lib.byteCells l) w' := by
    rintro p ⟨hB, v, hbk, hown, hne⟩
    refine ⟨hB, v, (ho.block (by omega) (lt_of_block hbk)).trans hbk, ⟨hown.1, ?_⟩, hne⟩
    rcases hown.2 with hn | ⟨g, cap, cur, rfl, hb2, hg, rest⟩
    · exact .inl hn
    · exact .inr ⟨g, cap, cur, rfl, hb2, (ho.block (by omega) (lt_of_block hg)).trans hg, rest⟩
  rcases h.1 with h | h
  · exact .inl (one _ h)
  · exact .inr (one _ h)

set_option maxHeartbeats 4000000 in
theorem quoted_any (b : Nat) (s : Bt) (w : World) (h : RdI w b s) :
    Calls Tryz.prog 92 #[.pointer (some ⟨b, 0, none⟩)] w fun e w' => Reads b w vText (Im.quoted s) e w' := by
  have H := hid h
  clear h
  obtain ⟨R, hR⟩ : ∃ R, R = Im.quoted s := ⟨_, rfl⟩
  rw [← hR]
  have HR := hid hR
  clear hR
  go_enter Tryz.func92, Tryz.ntmps92
  go_wp2_with (go_at_call 53; refine (sign_any b s [34] _ H.out).mono ?_; intro e w1 h1; rcases sign_cases h1 with ⟨q1, rfl, o1⟩ | ⟨s1, q1, rfl, r1, o1⟩ <;> (first | (have O1 := hid o1; have Q1 := hid q1; have R1 := hid r1; clear o1 q1 r1 h1) | (have O1 := hid o1; have Q1 := hid q1; clear o1 q1 h1)))
  all_goals first
    | (refine ⟨rfl, Reads.panic ?_ O1.out⟩; rw [HR.out]; simp [Im.quoted, Q1.out]; done)
    | skip
  have hR1 : R = quoteL s1 := by rw [HR.out]; simp [Im.quoted, Q1.out]
  have a0 := (Below.refl w1.heap.size w1).alloc (Nat.le_refl _) (.cells #[.pointer none, .slice none 0 0] 93)
  have R2 := hid (R1.out.below a0)
  have L2 := hid (Lib.fresh_isBuilder 93 5 w1)
  have O2 := hid (O1.out.trans (Only.of a0 (Nat.le_of_lt R1.out.lt)))
  have hb := R1.out.lt
  have hw := O1.out.size
  have hl1 := R1.out.len
  clear a0
  go_loopw [] (fun wr => ∃ (t acc : Bt), R = (quoteL t).map (fun q => (acc ++ q.1, q.2)) ∧ acc.length + t.length ≤ 100000000 ∧ RdI wr b t ∧ Bld w1.heap.size w1.heap.size acc wr ∧ Only b w wr) (fun wr => rdLen b wr)
  case atStart => exact ⟨s1, [], by rw [hR1]; simp, by simpa using hl1, R2.out, ⟨L2.out, by simp⟩, O2.out⟩
  case round =>
    obtain ⟨t, acc, hr, hl, hrd, hbl, ho⟩ := hrel
    have c0 := hrd.c
    have f0 := hrd.free
    have HRd := hid hrd
    have HB := hid hbl
    have HO := hid ho
    have HR2 := hid hr
    clear hrd hbl ho hr c0 f0
    cases t with
    | nil =>
      have hse := fun W hW => sees_any b [] [34] W hW
      have htk := fun W hW => takes_any b [] [92] W hW
      rw [pre_nil] at hse
      rw [show takes [92] [] = (false, []) by rfl] at htk
      go_wp2_with (first
        | (go_at_call 91; refine (hse _ HRd.out).mono ?_; rintro e w2 ⟨rfl, rfl⟩)
        | (go_at_call 26; refine (htk _ HRd.out).mono ?_; rintro e w3 ⟨rfl, r3, o3⟩; have c3 := r3.c; have f3 := r3.free; have R3 := hid r3; have O3 := hid o3; clear r3 o3)
        | (go_at_call 28; refine (must_f _).mono ?_; rintro e w4 ⟨rfl, rfl⟩))
      exact ⟨rfl, Reads.panic (by rw [HR2.out]; rfl) (HO.out.trans O3.out)⟩
    | cons c t =>
      have hse := fun W hW => sees_any b (c :: t) [34] W hW
      rw [pre_one] at hse
      by_cases h34 : c = 34
      · subst h34
        have hsg := fun W hW => sign_any b (34 :: t) [34] W hW
        rw [show sign [34] (34 :: t) = some t by simp [sign, pre_one]] at hsg
        have hst := fun W hW => bstring_any w1.heap.size w1.heap.size acc W hW
        go_wp2_with (first
          | (go_at_call 91; refine (hse _ HRd.out).mono ?_; rintro e w2 ⟨rfl, rfl⟩)
          | (go_at_call 53; refine (hsg _ HRd.out).mono ?_; intro e w3 h3; rcases h3.cases with ⟨q3, rfl, o3⟩ | ⟨x, t3, v, q3, rfl, rfl, r3, o3⟩ <;> (first | (cases q3; done) | (cases q3; have R3 := hid r3; have O3 := hid o3; clear r3 o3 h3)))
          | (go_at_call 85; refine (hst _ (HB.out.only O3.out (by omega))).mono ?_; rintro e w4 ⟨rfl, b4⟩; have B4 := hid b4; clear b4))
        go_ret
        exact Reads.give (x := acc) (t := t) (by rw [HR2.out, quote_end]; simp) ((HO.out.trans O3.out).trans' B4.out (by omega) hw) rfl (R3.out.below' B4.out (by omega))
      · rw [decide_eq_false h34] at hse
        by_cases h92 : c = 92
        · subst h92
          have htk := fun W hW => takes_any b (92 :: t) [92] W hW
          rw [show takes [92] (92 :: t) = (true, t) by simp [takes, pre_one]] at htk
          have tok0 : Tk 0 := ⟨⟩
          cases t with
          | nil =>
            go_wp2_with (first
              | (go_at_call 91; have t_ : Tk 0 := ‹Tk 0›; refine (hse _ HRd.out).mono ?_; rintro e w2 ⟨rfl, rfl⟩; clear t_ tok0)
              | (go_at_call 26; refine (htk _ HRd.out).mono ?_; rintro e w3 ⟨rfl, r3, o3⟩; have c3 := r3.c; have f3 := r3.free; have R3 := hid r3; have O3 := hid o3; clear r3 o3)
              | (go_at_call 91; refine (sees_nil b _ _ R3.out).mono ?_; rintro e w5 ⟨rfl, rfl⟩)
              | (go_at_call 28; refine (must_f _).mono ?_; rintro e w4 ⟨rfl, rfl⟩))
            all_goals exact ⟨rfl, Reads.panic (by rw [HR2.out, quote_escNil]; rfl) (HO.out.trans O3.out)⟩
          | cons d t =>
            have HQ := quote_esc d t
            by_cases hd : d = 34 ∨ d = 92
            · rw [if_pos hd] at HQ
              have z3 := str_size (d :: t)
              have hix : ∀ h : 0 < (str (d :: t)).size, (str (d :: t))[0] = d := fun h => rfl
              have hwb := fun W hW => wbyte_any w1.heap.size w1.heap.size acc d W hW (by simp at hl; omega)
              have e13 : ((d.toNat : Int) != 13) = true := by rcases hd with rfl | rfl <;> rfl
              have e10 : ((d.toNat : Int) != 10) = true := by rcases hd with rfl | rfl <;> rfl
              have hdd : (decide (d = 34) = true) ∨ (decide (d = 34) = false ∧ decide (d = 92) = true) := by rcases hd with rfl | rfl <;> decide
              clear hd
              rcases hdd with h1 | ⟨h1, h2⟩
              all_goals
                go_wp2_with (first
                  | (go_at_call 91; have t_ : Tk 0 := ‹Tk 0›; refine (hse _ HRd.out).mono ?_; rintro e w2 ⟨rfl, rfl⟩; clear t_ tok0)
                  | (go_at_call 26; refine (htk _ HRd.out).mono ?_; rintro e w3 ⟨rfl, r3, o3⟩; have c3 := r3.c; have f3 := r3.free; have R3 := hid r3; have O3 := hid o3; clear r3 o3)
                  | (go_at_call 91; refine (sees_one b d t _ _ R3.out).mono ?_; rintro e w5 ⟨rfl, rfl⟩; first | rw [h1] | rw [h2])
                  | (go_at_call 28; refine (must_t _).mono ?_; rintro e w4 ⟨rfl, rfl⟩)
                  | (go_at_call 122; refine (hwb _ (HB.out.only O3.out (by omega))).mono ?_; rintro e w5 ⟨rfl, l5, b5⟩; have r5 := R3.out.below' b5 (by omega); have c5 := r5.c; have f5 := r5.free; have R5 := hid r5; have L5 := hid l5; have B5 := hid b5; clear r5 l5 b5))
                all_goals
                  have ex : (str (d :: t)).extract 1 (t.length + 1) = str t := by rw [str_from (d :: t) 1 (t.length + 1) (by simp)]; rfl
                  rw [ex]
                  have rs := R5.out.set t (by simp)
                  refine ⟨⟨t, acc ++ [d], ?_, (by simp at hl ⊢; omega), rs, L5.out.only (Only.set _ _ _ _) (by omega), ((HO.out.trans O3.out).trans' B5.out (by omega) hw).trans (Only.set _ _ _ _)⟩, ?_⟩
                  · rw [HR2.out, HQ, Option.map_map]
                    congr 1
                    funext q
                    simp
                  · rw [rdLen_of rs, rdLen_of HRd.out]
                    simp
                    try omega
            · rw [if_neg hd] at HQ
              have h1 : decide (d = 34) = false := decide_eq_false (fun h => hd (.inl h))
              have h2 : decide (d = 92) = false := decide_eq_false (fun h => hd (.inr h))
              clear hd
              go_wp2_with (first
                | (go_at_call 91; have t_ : Tk 0 := ‹Tk 0›; refine (hse _ HRd.out).mono ?_; rintro e w2 ⟨rfl, rfl⟩; clear t_ tok0)
                | (go_at_call 26; refine (htk _ HRd.out).mono ?_; rintro e w3 ⟨rfl, r3, o3⟩; have c3 := r3.c; have f3 := r3.free; have R3 := hid r3; have O3 := hid o3; clear r3 o3)
                | (go_at_call 91; refine (sees_one b d t _ _ R3.out).mono ?_; rintro e w5 ⟨rfl, rfl⟩; first | rw [h1] | rw [h2])
                | (go_at_call 28; refine (must_f _).mono ?_; rintro e w4 ⟨rfl, rfl⟩))
              all_goals exact ⟨rfl, Reads.panic (by rw [HR2.out, HQ]; rfl) (HO.out.trans O3.out)⟩
        · have htk := fun W hW => takes_any b (c :: t) [92] W hW
          rw [show takes [92] (c :: t) = (false, c :: t) by simp [takes, pre_one, h92]] at htk
          have z3 := str_size (c :: t)
          have hix : ∀ h : 0 < (str (c :: t)).size, (str (c :: t))[0] = c := fun h => rfl
          have e13 : ((c.toNat : Int) != 13) = !decide (c = 13) := congrArg Bool.not (byte_eq c 13 (by decide))
          have e10 : ((c.toNat : Int) != 10) = !decide (c = 10) := congrArg Bool.not (byte_eq c 10 (by decide))
          have hq := quote_other t h34 h92
          have HQ := hq
          clear hq
          by_cases h13 : c = 13 ∨ c = 10
          · rw [if_pos h13] at HQ
            rcases h13 with h13 | h13
            · rw [decide_eq_true h13, Bool.not_true] at e13
              go_wp2_with (first
                | (go_at_call 91; refine (hse _ HRd.out).mono ?_; rintro e w2 ⟨rfl, rfl⟩)
                | (go_at_call 26; refine (htk _ HRd.out).mono ?_; rintro e w3 ⟨rfl, r3, o3⟩; have c3 := r3.c; have f3 := r3.free; have R3 := hid r3; have O3 := hid o3; clear r3 o3)
                | (go_at_call 28; refine (must_f _).mono ?_; rintro e w4 ⟨rfl, rfl⟩))
              all_goals exact ⟨rfl, Reads.panic (by rw [HR2.out, HQ]; rfl) (HO.out.trans O3.out)⟩
            · rw [decide_eq_true h13, Bool.not_true] at e10
              have e13' : ((c.toNat : Int) != 13) = true := by rw [e13, h13]; rfl
              clear e13
              go_wp2_with (first
                | (go_at_call 91; refine (hse _ HRd.out).mono ?_; rintro e w2 ⟨rfl, rfl⟩)
                | (go_at_call 26; refine (htk _ HRd.out).mono ?_; rintro e w3 ⟨rfl, r3, o3⟩; have c3 := r3.c; have f3 := r3.free; have R3 := hid r3; have O3 := hid o3; clear r3 o3)
                | (go_at_call 28; refine (must_f _).mono ?_; rintro e w4 ⟨rfl, rfl⟩))
              all_goals exact ⟨rfl, Reads.panic (by rw [HR2.out, HQ]; rfl) (HO.out.trans O3.out)⟩
          · have d13 : decide (c = 13) = false := decide_eq_false (fun h => h13 (.inl h))
            have d10 : decide (c = 10) = false := decide_eq_false (fun h => h13 (.inr h))
            rw [d13, Bool.not_false] at e13
            rw [d10, Bool.not_false] at e10
            clear d13 d10
            have hwb := fun W hW => wbyte_any w1.heap.size w1.heap.size acc c W hW (by simp at hl; omega)
            go_wp2_with (first
              | (go_at_call 91; refine (hse _ HRd.out).mono ?_; rintro e w2 ⟨rfl, rfl⟩)
              | (go_at_call 26; refine (htk _ HRd.out).mono ?_; rintro e w3 ⟨rfl, r3, o3⟩; have c3 := r3.c; have f3 := r3.free; have R3 := hid r3; have O3 := hid o3; clear r3 o3)
              | (go_at_call 28; refine (must_t _).mono ?_; rintro e w4 ⟨rfl, rfl⟩)
              | (go_at_call 122; refine (hwb _ (HB.out.only O3.out (by omega))).mono ?_; rintro e w5 ⟨rfl, l5, b5⟩; have r5 := R3.out.below' b5 (by omega); have c5 := r5.c; have f5 := r5.free; have R5 := hid r5; have L5 := hid l5; have B5 := hid b5; clear r5 l5 b5))
            all_goals
              have ex : (str (c :: t)).extract 1 (t.length + 1) = str t := by rw [str_from (c :: t) 1 (t.length + 1) (by simp)]; rfl
              rw [ex]
              have rs := R5.out.set t (by simp)
              refine ⟨⟨t, acc ++ [c], ?_, (by simp at hl ⊢; omega), rs, L5.out.only (Only.set _ _ _ _) (by omega), ((HO.out.trans O3.out).trans' B5.out (by omega) hw).trans (Only.set _ _ _ _)⟩, ?_⟩
              · rw [HR2.out, HQ, if_neg h13, Option.map_map]
                congr 1
                funext q
                simp
              · rw [rdLen_of rs, rdLen_of HRd.out]
                simp
end Go.Proofs.YtfdmdmahddjjmaaGreatDoor
