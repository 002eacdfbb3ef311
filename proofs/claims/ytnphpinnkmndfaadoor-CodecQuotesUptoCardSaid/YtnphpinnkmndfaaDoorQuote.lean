/-
  The program's Quote.
-/
import Derived.Test.YtnphpinnkmndfaaDoorEnc
import Derived.Test.YtnphpinnkmndfaaDoorRQuote
import Derived.Laws.RangeString
import Derived.Laws.RangeAny
import Derived.Shelf.GgClosure.StringsIndexFuncTop
namespace Go.Proofs.YtnphpinnkmndfaaDoor
open Go.RowKit Own Dec
set_option linter.unusedVariables false
set_option linter.unusedSimpArgs false
set_option maxRecDepth 100000

def otherR (r : Nat) : Bool := decide (r < 32) || decide (126 < r)
theorem other_byte (c : UInt8) : otherR c.toNat = !plainB c := by
  unfold otherR plainB
  by_cases h1 : 32 ≤ c.toNat <;> by_cases h2 : c.toNat ≤ 126 <;> simp [h1, h2] <;> omega
theorem idx_plain (l : List UInt8) : ∀ f pos : Nat, l.length ≤ pos + f → (0 ≤ Lib.idxFuncFrom otherR true (str l) f pos ↔ (l.drop pos).all plainB = false)
  | f, pos, h => by
    by_cases hp : pos < l.length
    · cases f with
      | zero => omega
      | succ f =>
        have hps : pos < (str l).size := by rw [str_size]; exact hp
        have hgc : (str l)[pos]'hps = l[pos] := rfl
        have hdr : l.drop pos = l[pos] :: l.drop (pos + 1) := List.drop_eq_getElem_cons hp
        unfold Lib.idxFuncFrom
        rw [if_pos hps, hdr, List.all_cons]
        by_cases h8 : (l[pos]).toNat < 128
        · rw [decode_ascii (str l) pos hps (by rw [hgc]; exact h8), hgc, other_byte]
          cases hpl : plainB l[pos] with
          | false => simp
          | true =>
            rw [if_neg (by simp)]
            simpa using idx_plain l f (pos + 1) (by omega)
        · have hd := decode_high (str l) pos hps (by rw [hgc]; omega)
          have h1 : otherR (Utf8.decode (str l) pos).1 = true := by unfold otherR; simp; omega
          have h2 : plainB l[pos] = false := by unfold plainB; simp; omega
          rw [h1, h2]
          simp
    · rw [Lib.idxFuncFrom_end _ _ _ _ _ (by rw [str_size]; exact hp), List.drop_eq_nil_of_le (by omega)]
      simp
theorem idx_all (l : List UInt8) : decide (0 ≤ Lib.idxFunc otherR true (str l)) = !(l.all plainB) := by
  have := idx_plain l (str l).size 0 (by rw [str_size]; omega)
  unfold Lib.idxFunc
  rw [List.drop_zero] at this
  cases h : l.all plainB with
  | true => simp [h] at this; simp; exact this
  | false => simp [h] at this; simpa using this

/-- The function value: what is not told in one line. -/
theorem other_pred (w : World) : PredAt Tryd.prog 39 #[] encR otherR w := fun W r _ => by
  unfold FnGives otherR
  by_cases h1 : r < 32 <;> by_cases h2 : 126 < r
  all_goals
    have z1 : (r : Int) < 32 ↔ r < 32 := by omega
    have z2 : (126 : Int) < (r : Int) ↔ 126 < r := by omega
    go_enter Tryd.func39, Tryd.ntmps39
    go_wp2
    all_goals first | (exfalso; omega) | (go_ret; exact ⟨by simp [h1, h2], 0, rfl⟩)

attribute [local go_sem] str_toList str_size ByteArray.size_append

set_option maxHeartbeats 2000000 in
theorem quote_any (l : List UInt8) (w : World) (hG : GoodC w) (hl : l.length ≤ 17592186044416) :
    Calls Tryd.prog 21 #[.string (str l)] w fun e w' => e = .returned (.string (str (quoteL l))) ∧ Below w.heap.size w w' := by
  have hsz := str_size l
  have hC := fun W => Tryd.strings_IndexFunc 39 #[] (enters_of Tryd.func39 (by kernel_rfl) rfl) otherR (str l) W (other_pred W)
  have hit := fun w' (g : GoodC w') => itoa_any (l.length : Int) (by omega) (by omega) w' g
  rw [itoa_digs] at hit
  have hia := idx_all l
  by_cases hap : allPlain l = true
  · have h200 : l.length ≤ 200 := by unfold allPlain at hap; simp at hap; exact hap.1
    have hpl : l.all plainB = true := by unfold allPlain at hap; simp at hap; simp; exact hap.2
    have e1 : decide (200 < (l.length : Int)) = false := decide_eq_false (by omega)
    rw [hpl] at hia
    have hq : quoteL l = [34] ++ esc l ++ [34] := by unfold quoteL; rw [if_pos hap]
    generalize Lib.idxFunc otherR true (str l) = J at *
    have e2 : decide (0 ≤ J) = false := hia
    have HQ := hid hq
    clear hpl hap hq hia hit
    go_enter Tryd.func21, Tryd.ntmps21
    go_wp2_with (first
      | (go_at_call 40; refine (hC _).mono ?_; rintro e w1 ⟨rfl, hb1⟩)
      | (go_at_call 28; refine (wbyte_at w1.heap.size w1.heap.size [] 34 34 rfl _ (Bld.fresh w1) (by simp)).mono ?_; rintro e w2 ⟨rfl, hbd2, hbl2⟩))
    have HB0 := hid hbd2
    have HL0 := hid (below_then hb1 (((Below.refl _ w1).alloc (Nat.le_refl _) _).trans hbl2))
    have HW1 := hid hb1
    clear hbd2 hbl2 hb1
    go_loopw [26] (fun v26 wr => ∃ i : Nat, i ≤ l.length ∧ v26 = .int .i64 i ∧ Bld w1.heap.size w1.heap.size ([34] ++ esc (l.take i)) wr ∧ Below w.heap.size w wr) (fun v26 _ => l.length - (intOf v26).toNat)
    case atStart => exact ⟨0, Nat.zero_le _, rfl, HB0.out, HL0.out⟩
    case round =>
      obtain ⟨i, hi, rfl, hbd, hbe⟩ := hrel
      have HBD := hid hbd
      have HBE := hid hbe
      clear hbd hbe
      by_cases hil : i < l.length
      · have e3 : decide ((i : Int) < l.length) = true := decide_eq_true (by omega)
        obtain ⟨c, hc⟩ : ∃ c, c = l[i] := ⟨_, rfl⟩
        have hix : ∀ h, (str l)[i]'h = c := by intro h; rw [hc]; rfl
        have htk : l.take (i + 1) = l.take i ++ [c] := by rw [List.take_succ_eq_append_getElem hil, hc]
        have hel := esc_len (l.take i)
        have htl : (l.take i).length ≤ l.length := by simp; omega
        have hen : esc (l.take (i + 1)) = esc (l.take i) ++ (if escB c = true then [92, c] else [c]) := by rw [htk, esc_snoc]
        generalize esc (l.take i) = E at *
        have HEN := hid hen
        have hEl : E.length ≤ 400 := by omega
        clear hc htk hen hel htl
        go_upto_region 9 with fail
        go_cut [38] (fun v38 wx => v38 = .bool (escB c) ∧ wr = wx)
        case first =>
          by_cases k1 : c = 34
          · have e4 : ((c.toNat : Int) == 34) = true := by rw [k1]; rfl
            have hes : escB c = true := by simp [escB, k1]
            clear k1
            go_wp2
            go_meet
            case rel => exact ⟨by rw [hes], rfl⟩
          · have e4 : ((c.toNat : Int) == 34) = false := by
              rw [beq_eq_false_iff_ne]; intro h; exact k1 (UInt8.toNat_inj.mp (by simpa using (by omega : c.toNat = 34)))
            by_cases k2 : c = 92
            · have e5 : ((c.toNat : Int) == 92) = true := by rw [k2]; rfl
              have hes : escB c = true := by simp [escB, k2]
              clear k1 k2
              go_wp2
              go_meet
              case rel => exact ⟨by rw [hes], rfl⟩
            · have e5 : ((c.toNat : Int) == 92) = false := by
                rw [beq_eq_false_iff_ne]; intro h; exact k2 (UInt8.toNat_inj.mp (by simpa using (by omega : c.toNat = 92)))
              have hes : escB c = false := by simp [escB, k1, k2]
              clear k1 k2
              go_wp2
              go_meet
              case rel => exact ⟨by rw [hes], rfl⟩
        case rest =>
        obtain ⟨rfl, rfl⟩ := hcut
        cases hes : escB c with
        | true =>
          have tok0 : Tok 0 := ⟨⟩
          have hfin : [34] ++ esc (l.take (i + 1)) = [34] ++ E ++ [92] ++ [c] := by rw [HEN.out, hes]; simp
          have HF := hid hfin
          clear hes hfin
          go_wp2_with (first
            | (go_at_call 28; have t_ : Tok 0 := ‹Tok 0›; refine (wbyte_at w1.heap.size w1.heap.size ([34] ++ E) 92 92 rfl _ HBD.out (by simp; omega)).mono ?_; rintro e w2 ⟨rfl, hbd2, hbl2⟩; clear t_; clear tok0; have tok1 : Tok 1 := ⟨⟩)
            | (go_at_call 28; have t_ : Tok 1 := ‹Tok 1›; refine (wbyte_at w1.heap.size w1.heap.size ([34] ++ E ++ [92]) c _ (by first | rfl | (rw [← hix]; rfl)) _ hbd2 (by simp; omega)).mono ?_; rintro e w3 ⟨rfl, hbd3, hbl3⟩; clear t_; clear tok1; have tok2 : Tok 2 := ⟨⟩))
          go_roundw
          case rel =>
            exact ⟨i + 1, by omega, by simp, by rw [HF.out]; exact hbd3, HBE.out.trans ((hbl2.trans hbl3).mono HW1.out.size)⟩
          case measure => simp [intOf]; omega
        | false =>
          have hfin : [34] ++ esc (l.take (i + 1)) = [34] ++ E ++ [c] := by rw [HEN.out, hes]; simp
          have HF := hid hfin
          clear hes hfin
          go_wp2_with (first
            | (go_at_call 28; refine (wbyte_at w1.heap.size w1.heap.size ([34] ++ E) c _ (by first | rfl | (rw [← hix]; rfl)) _ HBD.out (by simp; omega)).mono ?_; rintro e w3 ⟨rfl, hbd3, hbl3⟩))
          go_roundw
          case rel =>
            exact ⟨i + 1, by omega, by simp, by rw [HF.out]; exact hbd3, HBE.out.trans (hbl3.mono HW1.out.size)⟩
          case measure => simp [intOf]; omega
      · have e3 : decide ((i : Int) < l.length) = false := decide_eq_false (by omega)
        have : i = l.length := by omega
        subst this
        have hbd := HBD.out
        rw [List.take_length] at hbd
        have HB2 := hid hbd
        have hel := esc_len l
        have tok0 : Tok 0 := ⟨⟩
        generalize esc l = E at *
        clear hbd
        go_wp2_with (first
          | (go_at_call 28; refine (wbyte_at w1.heap.size w1.heap.size ([34] ++ E) 34 34 rfl _ HB2.out (by simp; omega)).mono ?_; rintro e w2 ⟨rfl, hbd2, hbl2⟩)
          | (go_at_call 29; refine (bstring_any w1.heap.size w1.heap.size ([34] ++ E ++ [34]) _ hbd2).mono ?_; rintro e w3 ⟨rfl, hb3⟩))
        go_ret
        exact ⟨by rw [HQ.out]; rfl, HBE.out.trans ((hbl2.trans hb3).mono HW1.out.size)⟩
  · have hq : quoteL l = [123] ++ Text.digs l.length ++ [125, 13, 10] ++ l := by unfold quoteL; rw [if_neg hap]
    have hap2 : ({ data := #[123] } : ByteArray) ++ str (Text.digs l.length) ++ ({ data := #[125] } : ByteArray) ++ ({ data := #[13, 10] } : ByteArray) ++ str l = str (quoteL l) := by
      rw [hq, show ({ data := #[123] } : ByteArray) = str [123] from rfl, show ({ data := #[125] } : ByteArray) = str [125] from rfl, show ({ data := #[13, 10] } : ByteArray) = str [13, 10] from rfl, str_append, str_append, str_append, str_append]
      simp
    have hdl := Text.digs_len 18 l.length (by have : (10 : Nat) ^ 19 = 10000000000000000000 := rfl; omega)
    have HAP := hid hap2
    clear hq hap2
    by_cases h200 : l.length ≤ 200
    · have e1 : decide (200 < (l.length : Int)) = false := decide_eq_false (by omega)
      have hpl : l.all plainB = false := by
        cases h : l.all plainB with
        | false => rfl
        | true => exact absurd (by unfold allPlain; rw [h]; simpa using h200) hap
      rw [hpl] at hia
      generalize Lib.idxFunc otherR true (str l) = J at *
      have e2 : decide (0 ≤ J) = true := hia
      generalize Text.digs l.length = D at *
      clear hia hap hpl
      go_enter Tryd.func21, Tryd.ntmps21
      go_wp2_with (first
        | (go_at_call 40; refine (hC _).mono ?_; rintro e w1 ⟨rfl, hb1⟩)
        | (go_at_call 38; refine (hit _ (hG.below hb1)).mono ?_; rintro e w2 ⟨rfl, hb2⟩))
      go_ret
      exact ⟨by rw [← HAP.out]; rfl, below_then hb1 hb2⟩
    · have e1 : decide (200 < (l.length : Int)) = true := decide_eq_true (by omega)
      generalize Text.digs l.length = D at *
      clear hia hap hC
      go_enter Tryd.func21, Tryd.ntmps21
      go_wp2_with (first
        | (go_at_call 38; refine (hit _ hG).mono ?_; rintro e w2 ⟨rfl, hb2⟩))
      go_ret
      exact ⟨by rw [← HAP.out]; rfl, hb2⟩

end Go.Proofs.YtnphpinnkmndfaaDoor
