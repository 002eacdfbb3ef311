/-
  The reference's Quote.
-/
import Derived.Test.YtnphpinnkmndfaaDoorRNum
import Derived.Test.YtnphpinnkmndfaaDoorBuf
namespace Go.Proofs.YtnphpinnkmndfaaDoor
open Go.RowKit Own Dec
set_option linter.unusedVariables false
set_option linter.unusedSimpArgs false
set_option maxRecDepth 100000

/-- How far a walk is. -/
structure Tok (n : Nat) : Prop

def plainB (c : UInt8) : Bool := decide (32 ≤ c.toNat) && decide (c.toNat ≤ 126)
def escB (c : UInt8) : Bool := (c == 34) || (c == 92)
def esc (l : List UInt8) : List UInt8 := l.flatMap fun c => if escB c = true then [92, c] else [c]
theorem esc_snoc (l : List UInt8) (c : UInt8) : esc (l ++ [c]) = esc l ++ (if escB c = true then [92, c] else [c]) := by simp [esc]
theorem esc_len (l : List UInt8) : (esc l).length ≤ 2 * l.length := by
  induction l with
  | nil => simp [esc]
  | cons c l ih =>
    have : esc (c :: l) = (if escB c = true then [92, c] else [c]) ++ esc l := by simp [esc]
    rw [this, List.length_append, List.length_cons]
    split <;> simp <;> omega
def allPlain (l : List UInt8) : Bool := decide (l.length ≤ 200) && l.all plainB
def quoteL (l : List UInt8) : List UInt8 := if allPlain l = true then [34] ++ esc l ++ [34] else [123] ++ Text.digs l.length ++ [125, 13, 10] ++ l

attribute [local go_sem] str_toList str_size ByteArray.size_append

set_option maxHeartbeats 2000000 in
theorem rquote_any (l : List UInt8) (w : World) (hl : l.length ≤ 17592186044416) :
    Calls Tryd.prog 22 #[.string (str l)] w fun e w' => e = .returned (.string (str (quoteL l))) ∧ Below w.heap.size w w' := by
  have hsz := str_size l
  have HB0 := Buf.lit w [34] (by simp)
  have L0 := (Below.refl w.heap.size w).alloc (Nat.le_refl _) (.cells (bv [34]).toArray 5 (0, 0))
  have HB0 := hid HB0
  have L0 := hid L0
  go_enter Tryd.func22, Tryd.ntmps22
  obtain ⟨p0, hp0⟩ : ∃ p0, p0 = decide (l.length ≤ 200) := ⟨_, rfl⟩
  have HP0 := hid hp0
  clear hp0
  go_upto_region 1 with fail
  go_cut [3] (fun v3 wx => v3 = .bool p0 ∧ w = wx)
  case first =>
    go_wp2
    go_meet
    case rel => exact ⟨by rw [HP0.out]; congr 1; exact decide_eq_decide.mpr (by omega), rfl⟩
  case rest =>
  obtain ⟨rfl, rfl⟩ := hcut
  go_wp2_with fail
  go_loopw [3, 4, 5] (fun v3 v4 v5 wr => ∃ (i : Nat) (pb : Bool), i ≤ l.length ∧ pb = (p0 && (l.take i).all plainB) ∧ v3 = .bool pb ∧ Buf w.heap.size wr v4 ([34] ++ esc (l.take i)) ∧ v5 = .int .i64 i ∧ Below w.heap.size w wr) (fun _ _ v5 _ => l.length - (intOf v5).toNat)
  case atStart => exact ⟨0, p0, Nat.zero_le _, by simp, rfl, HB0.out, rfl, L0.out⟩
  case round =>
    obtain ⟨i, pb, hi, hpb, rfl, hbuf, rfl, hbel⟩ := hrel
    have HPB := hid hpb
    have HBUF := hid hbuf
    have HBE := hid hbel
    clear hpb hbuf hbel
    by_cases hil : i < l.length
    · have e1 : decide ((i : Int) < l.length) = true := decide_eq_true (by omega)
      obtain ⟨c, hc⟩ : ∃ c, c = l[i] := ⟨_, rfl⟩
      have hix : ∀ h, (str l)[i]'h = c := by intro h; rw [hc]; rfl
      have htk : l.take (i + 1) = l.take i ++ [c] := by rw [List.take_succ_eq_append_getElem hil, hc]
      have hel := esc_len (l.take i)
      have htl : (l.take i).length ≤ l.length := by simp; omega
      have hpn : (p0 && (l.take (i + 1)).all plainB) = (pb && plainB c) := by rw [htk, HPB.out, List.all_append]; simp [Bool.and_assoc]
      have hen : esc (l.take (i + 1)) = esc (l.take i) ++ (if escB c = true then [92, c] else [c]) := by rw [htk, esc_snoc]
      generalize esc (l.take i) = E at *
      have HEN := hid hen
      have HPN := hid hpn
      have HEL := hid (And.intro hel htl)
      clear hc htk hen hpn hel htl
      go_upto_region 6 with fail
      go_cut [3] (fun v3 wx => v3 = .bool (pb && plainB c) ∧ wr = wx)
      case first =>
        cases pb with
        | false =>
          go_wp2
          go_meet
          case rel => exact ⟨rfl, rfl⟩
        | true =>
          by_cases k1 : 32 ≤ c.toNat
          · have e2 : decide (32 ≤ (c.toNat : Int)) = true := decide_eq_true (by omega)
            by_cases k2 : c.toNat ≤ 126
            · have e3 : decide ((c.toNat : Int) ≤ 126) = true := decide_eq_true (by omega)
              have hpl : plainB c = true := by simp [plainB, k1, k2]
              clear k1 k2
              go_wp2
              go_meet
              case rel => exact ⟨by rw [hpl]; rfl, rfl⟩
            · have e3 : decide ((c.toNat : Int) ≤ 126) = false := decide_eq_false (by omega)
              have hpl : plainB c = false := by simp [plainB, k2]
              clear k1 k2
              go_wp2
              go_meet
              case rel => exact ⟨by rw [hpl]; rfl, rfl⟩
          · have e2 : decide (32 ≤ (c.toNat : Int)) = false := decide_eq_false (by omega)
            have hpl : plainB c = false := by simp [plainB, k1]
            clear k1
            go_wp2
            go_meet
            case rel => exact ⟨by rw [hpl]; rfl, rfl⟩
      case rest =>
      obtain ⟨rfl, rfl⟩ := hcut
      go_upto_region 7 with fail
      go_cut [38] (fun v38 wx => v38 = .bool (escB c) ∧ wr = wx)
      case first =>
        by_cases k1 : c = 34
        · have e2 : ((c.toNat : Int) == 34) = true := by rw [k1]; rfl
          have hes : escB c = true := by simp [escB, k1]
          clear k1
          go_wp2
          go_meet
          case rel => exact ⟨by rw [hes], rfl⟩
        · have e2 : ((c.toNat : Int) == 34) = false := by
            rw [beq_eq_false_iff_ne]; intro h; exact k1 (UInt8.toNat_inj.mp (by simpa using (by omega : c.toNat = 34)))
          by_cases k2 : c = 92
          · have e3 : ((c.toNat : Int) == 92) = true := by rw [k2]; rfl
            have hes : escB c = true := by simp [escB, k2]
            clear k1 k2
            go_wp2
            go_meet
            case rel => exact ⟨by rw [hes], rfl⟩
          · have e3 : ((c.toNat : Int) == 92) = false := by
              rw [beq_eq_false_iff_ne]; intro h; exact k2 (UInt8.toNat_inj.mp (by simpa using (by omega : c.toNat = 92)))
            have hes : escB c = false := by simp [escB, k1, k2]
            clear k1 k2
            go_wp2
            go_meet
            case rel => exact ⟨by rw [hes], rfl⟩
      case rest =>
      obtain ⟨rfl, rfl⟩ := hcut
      have hEl : E.length ≤ 35184372088832 := by have := HEL.out; omega
      cases hes : escB c with
      | true =>
        have tok0 : Tok 0 := ⟨⟩
        have hfin : [34] ++ esc (l.take (i + 1)) = [34] ++ E ++ [92] ++ [c] := by rw [HEN.out, hes]; simp
        have HF := hid hfin
        clear hes hfin
        go_wp2_with (first
          | (at_builtin; have t_ : Tok 0 := ‹Tok 0›; refine wpList_buf w.heap.size _ rfl _ _ rfl u4 ([34] ++ E) [92] rfl (HBUF.out.alloc _) _ 1 1 rfl rfl (one_src wr 92 92 rfl) (by simp; omega) ?_; intro v' w1 hr1 hb1; clear t_; clear tok0; have tok1 : Tok 1 := ⟨⟩)
          | (at_builtin; have t_ : Tok 1 := ‹Tok 1›; refine wpList_buf w.heap.size _ rfl _ _ rfl v' ([34] ++ E ++ [92]) [c] rfl (hr1.alloc _) _ 1 1 rfl rfl (one_src w1 c _ rfl) (by simp; omega) ?_; intro v'' w2 hr2 hb2; clear t_; clear tok1; have tok2 : Tok 2 := ⟨⟩))
        go_roundw
        case rel =>
          refine ⟨i + 1, pb && plainB c, by omega, HPN.out.symm, rfl, ?_, by simp, (((HBE.out.alloc HBUF.out.2 _).trans hb1).alloc hr1.2 _).trans hb2⟩
          rw [HF.out]; exact hr2
        case measure => simp [intOf]; omega
      | false =>
        have hfin : [34] ++ esc (l.take (i + 1)) = [34] ++ E ++ [c] := by rw [HEN.out, hes]; simp
        have HF := hid hfin
        clear hes hfin
        go_wp2_with ((at_builtin; refine wpList_buf w.heap.size _ rfl _ _ rfl u4 ([34] ++ E) [c] rfl (HBUF.out.alloc _) _ 1 1 rfl rfl (one_src wr c _ rfl) (by simp; omega) ?_; intro v' w1 hr1 hb1))
        go_roundw
        case rel =>
          refine ⟨i + 1, pb && plainB c, by omega, HPN.out.symm, rfl, ?_, by simp, (HBE.out.alloc HBUF.out.2 _).trans hb1⟩
          rw [HF.out]; exact hr1
        case measure => simp [intOf]; omega
    · have e1 : decide ((i : Int) < l.length) = false := decide_eq_false (by omega)
      have : i = l.length := by omega
      subst this
      have hpl : pb = allPlain l := by rw [HPB.out, HP0.out, List.take_length]; rfl
      have hbuf2 := HBUF.out
      rw [List.take_length] at hbuf2
      have HBF := hid hbuf2
      have hel := esc_len l
      cases pb with
      | true =>
        have hq : quoteL l = [34] ++ esc l ++ [34] := by unfold quoteL; rw [if_pos hpl.symm]
        have HQ := hid hq
        clear hbuf2 hpl hq
        generalize esc l = E at *
        obtain ⟨R, hR⟩ : ∃ R, R = [34] ++ E ++ [34] := ⟨_, rfl⟩
        have HR := hid hR
        clear hR
        go_wp2_with ((at_builtin; refine wpList_buf w.heap.size _ rfl _ _ rfl u4 ([34] ++ E) [34] rfl (HBF.out.alloc _) _ 1 1 rfl rfl (one_src wr 34 34 rfl) (by simp; omega) ?_; intro v' w1 hr1 hb1; rw [← HR.out] at hr1; obtain ⟨A', c', rfl, -⟩ := hr1.slice; have cv := hr1.conv))
        go_ret
        exact ⟨by rw [HQ.out, ← HR.out]; rfl, (HBE.out.alloc HBUF.out.2 _).trans hb1⟩
      | false =>
        have hq : quoteL l = [123] ++ Text.digs l.length ++ [125, 13, 10] ++ l := by unfold quoteL; rw [if_neg (by rw [← hpl]; decide)]
        have hap : ({ data := #[123] } : ByteArray) ++ str (Text.digs l.length) ++ ({ data := #[125, 13, 10] } : ByteArray) ++ str l = str (quoteL l) := by
          rw [hq, show ({ data := #[123] } : ByteArray) = str [123] from rfl, show ({ data := #[125, 13, 10] } : ByteArray) = str [125, 13, 10] from rfl, str_append, str_append, str_append]
        have hdg := fun w' => digits_any l.length w' (by omega)
        have hdl := Text.digs_len 18 l.length (by have : (10 : Nat) ^ 19 = 10000000000000000000 := rfl; omega)
        have HAP := hid hap
        clear hbuf2 hpl hq hap
        generalize Text.digs l.length = D at *
        go_wp2_with ((go_at_call 27; refine (hdg _).mono ?_; rintro e w1 ⟨rfl, hb1⟩))
        go_ret
        exact ⟨by rw [← HAP.out]; rfl, HBE.out.trans (hb1.mono HBUF.out.2)⟩

end Go.Proofs.YtnphpinnkmndfaaDoor
