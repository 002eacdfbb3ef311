/-
  The reference's Stuff.
-/
import Derived.Test.YtnphpinnkmndfaaDoorDecode
namespace Go.Proofs.YtnphpinnkmndfaaDoor
open Go.RowKit Own Dec
set_option linter.unusedVariables false
set_option linter.unusedSimpArgs false
set_option maxRecDepth 100000

namespace Stf
theorem ends_iff (l : List UInt8) : ends l ↔ 2 ≤ l.length ∧ l[l.length - 2]? = some 13 ∧ l[l.length - 1]? = some 10 := by
  constructor
  · rintro ⟨x, rfl⟩
    simp
  · rintro ⟨h, h1, h2⟩
    refine ⟨l.take (l.length - 2), ?_⟩
    have e1 := List.take_append_drop (l.length - 2) l
    have hd : l.drop (l.length - 2) = [13, 10] := by
      obtain ⟨k1, k2⟩ := List.getElem?_eq_some_iff.1 h1
      obtain ⟨k3, k4⟩ := List.getElem?_eq_some_iff.1 h2
      rw [List.drop_eq_getElem_cons k1, k2]
      have e : l.length - 2 + 1 = l.length - 1 := by omega
      rw [e, List.drop_eq_getElem_cons k3, k4, List.drop_eq_nil_of_le (by omega)]
    rw [hd] at e1
    exact e1.symm
theorem all_len (l : List UInt8) : (allR l).length ≤ l.length + 2 := by
  unfold allR
  split <;> simp
/-- A line begins at i. -/
def stB (l : List UInt8) (i : Nat) : Bool := decide (i = 0) || (decide (2 ≤ i) && (l.getD (i - 2) 0 == 13) && (l.getD (i - 1) 0 == 10))
/-- The byte ahead of i is 13. -/
def crB (l : List UInt8) (i : Nat) : Bool := decide (1 ≤ i) && (l.getD (i - 1) 0 == 13)
theorem body_at (l : List UInt8) (i : Nat) (h : i < l.length) : body (stB l i) (crB l i) (l.drop i) = (if stB l i = true ∧ l[i] = 46 then [46] else []) ++ l[i] :: body (stB l (i + 1)) (crB l (i + 1)) (l.drop (i + 1)) := by
  rw [List.drop_eq_getElem_cons h]
  show (if stB l i = true ∧ l[i] = 46 then [46] else []) ++ l[i] :: body (crB l i && l[i] == 10) (l[i] == 13) (l.drop (i + 1)) = _
  have hg : l.getD i 0 = l[i] := by simp [List.getD, h]
  have h1 : (crB l i && l[i] == 10) = stB l (i + 1) := by
    unfold crB stB
    rw [show i + 1 - 2 = i - 1 by omega, show i + 1 - 1 = i by omega, hg]
    by_cases hi : 1 ≤ i
    · simp [hi, show 2 ≤ i + 1 by omega]
    · simp [show i = 0 by omega]
  have h2 : (l[i] == 13) = crB l (i + 1) := by
    unfold crB
    rw [show i + 1 - 1 = i by omega, hg]
    simp
  rw [h1, h2]
end Stf
theorem Buf.mono {B B2 : Nat} {w : World} {v : Value} {bs : List UInt8} (h : Buf B2 w v bs) (hB : B ≤ B2) : Buf B w v bs := ⟨h.1.mono fun k hk => Nat.le_trans hB hk, Nat.le_trans hB h.2⟩

theorem src_some {w : World} {A : Option Addr} {l : List UInt8} (h : Src w A (bv l)) (hne : l ≠ []) : ∃ p, A = some p := by
  cases A with
  | none => have := h.1 rfl; simp [bv] at this; exact absurd this hne
  | some p => exact ⟨p, rfl⟩
theorem bv_at {l : List UInt8} {i : Nat} {c : UInt8} (h : l[i]? = some c) : (bv l)[i]? = some (.int .u8 c.toNat) := by
  obtain ⟨h1, h2⟩ := List.getElem?_eq_some_iff.1 h
  simp [bv, h1, h2]

set_option maxHeartbeats 4000000 in
theorem rstuff_any (A : Option Addr) (nn cc : Nat) (bs : List UInt8) (w : World) (hs : Src w A (bv bs)) (hn : nn = bs.length) (hl : bs.length ≤ 2147483648) :
    Calls Tryd.prog 18 #[.slice A nn cc] w fun e w' => ∃ v, e = .returned v ∧ Buf w.heap.size w' v (Stf.stuffP bs) ∧ Below w.heap.size w w' := by
  subst hn
  have HS := hid hs
  have HB0 := hid (Buf.lit w [] (by simp))
  have L0 := hid ((Below.refl w.heap.size w).alloc (Nat.le_refl _) (.cells (bv []).toArray 5 (0, 0)))
  have HAL := hid (Stf.all_len bs)
  obtain ⟨AL, hAL⟩ : ∃ AL, AL = Stf.allR bs := ⟨_, rfl⟩
  have HALE := hid hAL
  rw [Stf.stuff_eq bs.length bs (Nat.le_refl _), ← hAL]
  clear hs hAL
  go_enter Tryd.func18, Tryd.ntmps18
  have hT : ∃ T : Bool, AL = (if T = true then bs ++ [13, 10] else bs) ∧ ((bs.length = 0 ∧ T = false) ∨ (bs.length = 1 ∧ T = true) ∨ ∃ a b, 2 ≤ bs.length ∧ bs[bs.length - 2]? = some a ∧ bs[bs.length - 1]? = some b ∧ T = !((a == 13) && (b == 10))) := by
    rcases Nat.lt_or_ge bs.length 2 with h | h
    · by_cases h0 : bs.length = 0
      · exact ⟨false, by rw [HALE.out]; unfold Stf.allR; rw [if_neg (fun h => h.1 (List.eq_nil_of_length_eq_zero h0))]; rfl, .inl ⟨h0, rfl⟩⟩
      · exact ⟨true, by rw [HALE.out]; unfold Stf.allR; rw [if_pos ⟨fun h => by rw [h] at h0; simp at h0, fun h => by have := (Stf.ends_iff bs).1 h; omega⟩]; rfl, .inr (.inl ⟨by omega, rfl⟩)⟩
    · have hne : bs ≠ [] := fun e => by rw [e] at h; simp at h
      refine ⟨!((bs[bs.length - 2] == 13) && (bs[bs.length - 1] == 10)), ?_, .inr (.inr ⟨bs[bs.length - 2], bs[bs.length - 1], h, List.getElem?_eq_getElem (by omega), List.getElem?_eq_getElem (by omega), rfl⟩)⟩
      rw [HALE.out]
      unfold Stf.allR
      by_cases he : Stf.ends bs
      · obtain ⟨_, h1, h2⟩ := (Stf.ends_iff bs).1 he
        rw [List.getElem?_eq_getElem (by omega)] at h1 h2
        rw [if_neg (fun h => h.2 he), Option.some.inj h1, Option.some.inj h2]
        rfl
      · rw [if_pos ⟨hne, he⟩, if_pos]
        rw [Bool.not_eq_true', Bool.and_eq_false_iff, beq_eq_false_iff_ne, beq_eq_false_iff_ne]
        by_cases h1 : bs[bs.length - 2] = 13
        · right
          intro h2
          exact he ((Stf.ends_iff bs).2 ⟨h, by rw [List.getElem?_eq_getElem (by omega), h1], by rw [List.getElem?_eq_getElem (by omega), h2]⟩)
        · exact .inl h1
  obtain ⟨T, hTA, hTc⟩ := hT
  have HTA := hid hTA
  have HTC := hid hTc
  clear hTA hTc
  go_upto_region 3 with ((at_builtin; go_loud (refine wpList_buf w.heap.size _ rfl _ _ rfl _ [] bs rfl HB0.out _ _ _ rfl rfl (HS.out.below L0.out) (by simp; omega) ?_; intro v3 w3 hr3 hb3; rw [List.nil_append] at hr3; obtain ⟨A3, c3, rfl, hc3, hs3⟩ := hr3.full; have HR3 := hid hr3; have HS3 := hid hs3; have HB3 := hid (L0.out.trans hb3); clear hr3 hb3 hc3 hs3)))
  go_cut [33] (fun v33 wx => v33 = .bool T ∧ w3 = wx)
  case first =>
    rcases HTC.out with ⟨h0, ht⟩ | ⟨h0, ht⟩ | ⟨a, b, h0, ha, hb, ht⟩
    · have h1 : bs.length ≤ 0 := by omega
      have HT := hid ht
      clear h0 ht
      go_wp2
      go_meet
      case rel => exact ⟨by rw [HT.out], rfl⟩
    · have e1 : decide (0 < (bs.length : Int)) = true := decide_eq_true (by omega)
      have h2 : bs.length < 2 := by omega
      have h1 : 1 ≤ bs.length := by omega
      have HT := hid ht
      clear h0 ht
      go_wp2
      go_meet
      case rel => exact ⟨by rw [HT.out], rfl⟩
    · have e1 : decide (0 < (bs.length : Int)) = true := decide_eq_true (by omega)
      have e2 : decide ((bs.length : Int) < 2) = false := decide_eq_false (by omega)
      have HT := hid ht
      have hne3 : bs ≠ [] := fun h => by rw [h] at h0; simp at h0
      obtain ⟨p3, rfl⟩ := src_some HS3.out hne3
      have hx1 := HS3.out.2 p3 rfl (bs.length - 2) (.int .u8 a.toNat) (bv_at ha)
      have hx2 := HS3.out.2 p3 rfl (bs.length - 1) (.int .u8 b.toNat) (bv_at hb)
      clear ha hb ht hne3
      by_cases h13 : a = 13
      · have e3 : ((a.toNat : Int) != 13) = false := by rw [h13]; rfl
        have t3 : (a == 13) = true := by simpa using h13
        clear h13
        by_cases h10 : b = 10
        · have e4 : ((b.toNat : Int) != 10) = false := by rw [h10]; rfl
          have t4 : (b == 10) = true := by simpa using h10
          clear h10
          go_wp2
          go_meet
          case rel => exact ⟨by rw [HT.out, t3, t4]; rfl, rfl⟩
        · have e4 : ((b.toNat : Int) != 10) = true := by
            rw [bne_iff_ne]; intro h; exact h10 (UInt8.toNat_inj.mp (by simpa using (by omega : b.toNat = 10)))
          have t4 : (b == 10) = false := by simpa using h10
          clear h10
          go_wp2
          go_meet
          case rel => exact ⟨by rw [HT.out, t3, t4]; rfl, rfl⟩
      · have e3 : ((a.toNat : Int) != 13) = true := by
          rw [bne_iff_ne]; intro h; exact h13 (UInt8.toNat_inj.mp (by simpa using (by omega : a.toNat = 13)))
        have t3 : (a == 13) = false := by simpa using h13
        clear h13
        go_wp2
        go_meet
        case rel => exact ⟨by rw [HT.out, t3]; rfl, rfl⟩
  case rest =>
  obtain ⟨rfl, rfl⟩ := hcut
  go_upto_if 33 with fail
  go_cut [3] (fun v3 wx => ∃ A c, v3 = .slice A AL.length c ∧ Buf w.heap.size wx v3 AL ∧ Below w.heap.size w wx)
  case first =>
    cases T with
    | false =>
      have ha : AL = bs := HTA.out
      have HA := hid ha
      clear ha HTA HTC
      go_wp2
      go_meet
      case rel => exact ⟨A3, c3, by rw [HA.out], by rw [HA.out]; exact HR3.out, HB3.out⟩
    | true =>
      have ha : AL = bs ++ [13, 10] := HTA.out
      have HA := hid ha
      clear ha HTA HTC
      go_wp2_with ((at_builtin; refine wpList_buf w.heap.size _ rfl _ _ rfl _ bs [13, 10] rfl (HR3.out.alloc _) _ 2 2 rfl rfl (lit_bytes w3 [13, 10] _ _ rfl) (by simp; omega) ?_; intro v4 w4 hr4 hb4; obtain ⟨A4, c4, rfl, hc4, hs4⟩ := hr4.full; have HR4 := hid hr4; have HB4 := hid ((HB3.out.alloc HR3.out.2 _).trans hb4); clear hr4 hb4 hc4 hs4))
      go_meet
      case rel => exact ⟨A4, c4, by rw [HA.out]; simp, by rw [HA.out]; have h := HR4.out; simp only [List.length_append, List.length_cons, List.length_nil] at h; exact h, HB4.out⟩
  case rest =>
  obtain ⟨A4, c4, rfl, hbuf4, hbel4⟩ := hcut
  have hL := HAL.out
  rw [← HALE.out] at hL
  clear HTA HTC HALE HR3 HS3 HB3 HAL
  have HBUF4 := hid hbuf4
  have HBE4 := hid hbel4
  have HS4 := hid hbuf4.1.src
  have HB5 := hid (Buf.lit wc [] (by simp))
  have L5 := hid ((Below.refl wc.heap.size wc).alloc (Nat.le_refl _) (.cells (bv []).toArray 5 (0, 0)))
  clear hbuf4 hbel4
  go_wp2_with fail
  go_loopw [5, 6] (fun v5 v6 wr => ∃ (i : Nat) (o : List UInt8), i ≤ AL.length ∧ v6 = .int .i64 i ∧ o ++ Stf.body (Stf.stB AL i) (Stf.crB AL i) (AL.drop i) = Stf.body true false AL ∧ o.length ≤ 2 * i ∧ Buf wc.heap.size wr v5 o ∧ Below wc.heap.size wc wr) (fun _ v6 _ => AL.length - (intOf v6).toNat)
  case atStart => exact ⟨0, [], Nat.zero_le _, rfl, by rw [List.drop_zero]; rfl, by simp, HB5.out, L5.out⟩
  case round =>
    obtain ⟨i, o, hi, rfl, heq, hol, hbuf, hbel⟩ := hrel
    have HEQ := hid heq
    have HBUF := hid hbuf
    have HBE := hid hbel
    clear heq hbuf hbel
    by_cases hil : i < AL.length
    · obtain ⟨c, hc⟩ : ∃ c, c = AL[i] := ⟨_, rfl⟩
      have hne : AL ≠ [] := fun h => by rw [h] at hil; simp at hil
      have hsr := HS4.out.below HBE.out
      obtain ⟨p, rfl⟩ := src_some HS4.out hne
      have hcell := hsr.2 p rfl i (.int .u8 c.toNat) (by rw [hc]; exact bv_at (List.getElem?_eq_getElem hil))
      have HPB := hid (World.block_lt_of_cell? wc (p.add i) (HS4.out.2 p rfl i (.int .u8 c.toNat) (by rw [hc]; exact bv_at (List.getElem?_eq_getElem hil))))
      have hst := Stf.body_at AL i hil
      have heq := HEQ.out
      rw [hst, ← hc, ← List.append_assoc] at heq
      obtain ⟨D, hD⟩ : ∃ D, D = (Stf.stB AL i && (c == 46)) := ⟨_, rfl⟩
      have hdd : (if Stf.stB AL i = true ∧ c = 46 then [46] else []) = (if D = true then [46] else ([] : List UInt8)) := by
        rw [hD]
        by_cases h1 : Stf.stB AL i = true <;> by_cases h2 : c = 46 <;> simp [h1, h2]
      rw [hdd] at heq
      have HE := hid heq
      have HD := hid hD
      clear hst heq hD hdd hc hne HEQ
      have hgt : ∀ j, j < i → wr.cell? (p.add j) = some (.int .u8 (AL.getD j 0).toNat) := fun j hj => by
        have := hsr.2 p rfl j (.int .u8 (AL.getD j 0).toNat) (bv_at (by rw [List.getElem?_eq_getElem (by omega)]; simp [List.getD, show j < AL.length by omega]))
        exact this
      have HG := hid hgt
      clear hgt hsr
      go_upto_region 9 with fail
      go_cut [72] from 38 to 82 (fun v72 wx => v72 = .bool D ∧ wr = wx)
      case first =>
        by_cases h46 : c = 46
        · have e1 : ((c.toNat : Int) == 46) = true := by rw [h46]; rfl
          have hD2 : D = Stf.stB AL i := by rw [HD.out, h46]; simp
          clear h46
          have hi3 : i = 0 ∨ i = 1 ∨ 2 ≤ i := by omega
          rcases hi3 with hi3 | hi3 | hi3
          · have hDt : D = true := by rw [hD2, hi3]; rfl
            have e0 : ((i : Int) == 0) = true := by rw [hi3]; rfl
            have hi4 : i ≤ 0 := by omega
            clear hi3
            have HDT := hid hDt
            clear hD2 hDt
            go_wp2
            go_meet
            case rel => exact ⟨by rw [HDT.out], rfl⟩
          · have hDt : D = false := by rw [hD2, hi3]; rfl
            have e0 : ((i : Int) == 0) = false := by rw [beq_eq_false_iff_ne]; omega
            have hi4 : i < 2 := by omega
            clear hi3
            have HDT := hid hDt
            clear hD2 hDt
            go_wp2
            go_meet
            case rel => exact ⟨by rw [HDT.out], rfl⟩
          · have g1 := HG.out (i - 2) (by omega)
            have g2 := HG.out (i - 1) (by omega)
            have hDt : D = ((AL.getD (i - 2) 0 == 13) && (AL.getD (i - 1) 0 == 10)) := by
              rw [hD2]; unfold Stf.stB; simp [show ¬ i = 0 by omega, hi3]
            have e0 : ((i : Int) == 0) = false := by rw [beq_eq_false_iff_ne]; omega
            generalize AL.getD (i - 2) 0 = a at *
            generalize AL.getD (i - 1) 0 = b at *
            have HDT := hid hDt
            clear hD2 hDt
            by_cases h13 : a = 13
            · have e3 : ((a.toNat : Int) == 13) = true := by rw [h13]; rfl
              have t3 : (a == 13) = true := by simpa using h13
              clear h13
              by_cases h10 : b = 10
              · have e4 : ((b.toNat : Int) == 10) = true := by rw [h10]; rfl
                have t4 : (b == 10) = true := by simpa using h10
                clear h10
                go_wp2
                go_meet
                case rel => exact ⟨by rw [HDT.out, t3, t4]; rfl, rfl⟩
              · have e4 : ((b.toNat : Int) == 10) = false := by
                  rw [beq_eq_false_iff_ne]; intro h; exact h10 (UInt8.toNat_inj.mp (by simpa using (by omega : b.toNat = 10)))
                have t4 : (b == 10) = false := by simpa using h10
                clear h10
                go_wp2
                go_meet
                case rel => exact ⟨by rw [HDT.out, t3, t4]; rfl, rfl⟩
            · have e3 : ((a.toNat : Int) == 13) = false := by
                rw [beq_eq_false_iff_ne]; intro h; exact h13 (UInt8.toNat_inj.mp (by simpa using (by omega : a.toNat = 13)))
              have t3 : (a == 13) = false := by simpa using h13
              clear h13
              go_wp2
              go_meet
              case rel => exact ⟨by rw [HDT.out, t3]; rfl, rfl⟩
        · have e1 : ((c.toNat : Int) == 46) = false := by
            rw [beq_eq_false_iff_ne]; intro h; exact h46 (UInt8.toNat_inj.mp (by simpa using (by omega : c.toNat = 46)))
          have hD2 : D = false := by rw [HD.out]; simp [h46]
          have HDT := hid hD2
          clear h46 hD2
          go_wp2
          go_meet
          case rel => exact ⟨by rw [HDT.out], rfl⟩
      case rest =>
      obtain ⟨rfl, rfl⟩ := hcut
      cases D with
      | false =>
        have heq : o ++ [c] ++ Stf.body (Stf.stB AL (i + 1)) (Stf.crB AL (i + 1)) (AL.drop (i + 1)) = Stf.body true false AL := by
          have := HE.out; simpa using this
        have HE2 := hid heq
        clear heq HE
        go_wp2_with ((at_builtin; refine wpList_buf wc.heap.size _ rfl _ _ rfl _ o [c] rfl (HBUF.out.alloc _) _ 1 1 rfl rfl (one_src _ c _ rfl) (by simp; omega) ?_; intro v' w1 hr1 hb1))
        go_roundw
        case rel => exact ⟨i + 1, o ++ [c], by omega, by go_num, HE2.out, by simp; omega, hr1, (HBE.out.alloc HBUF.out.2 _).trans hb1⟩
        case measure => simp [intOf]; omega
      | true =>
        have heq : o ++ [46] ++ [c] ++ Stf.body (Stf.stB AL (i + 1)) (Stf.crB AL (i + 1)) (AL.drop (i + 1)) = Stf.body true false AL := by
          have := HE.out; simpa using this
        have HE2 := hid heq
        have tok0 : Tok 0 := ⟨⟩
        clear heq HE
        go_wp2_with (first
          | (at_builtin; have t_ : Tok 0 := ‹Tok 0›; refine wpList_buf wc.heap.size _ rfl _ _ rfl _ o [46] rfl (HBUF.out.alloc _) _ 1 1 rfl rfl (one_src _ 46 46 rfl) (by simp; omega) ?_; intro v' w1 hr1 hb1; have hcell1 := (hb1.cell HPB.out).trans (((Below.refl wr.heap.size wr).alloc (Nat.le_refl _) _).cell (World.block_lt_of_cell? wr _ hcell) |>.trans hcell); clear t_; clear tok0; have tok1 : Tok 1 := ⟨⟩)
          | (at_builtin; have t_ : Tok 1 := ‹Tok 1›; refine wpList_buf wc.heap.size _ rfl _ _ rfl _ (o ++ [46]) [c] rfl (hr1.alloc _) _ 1 1 rfl rfl (one_src _ c _ rfl) (by simp; omega) ?_; intro v'' w2 hr2 hb2; clear t_; clear tok1; have tok2 : Tok 2 := ⟨⟩))
        go_roundw
        case rel => exact ⟨i + 1, o ++ [46] ++ [c], by omega, by go_num, HE2.out, by simp; omega, hr2, (((HBE.out.alloc HBUF.out.2 _).trans hb1).alloc hr1.2 _).trans hb2⟩
        case measure => simp [intOf]; omega
    · have e1 : decide ((i : Int) < AL.length) = false := decide_eq_false (by omega)
      obtain rfl : i = AL.length := by omega
      have heq : o = Stf.body true false AL := by
        have := HEQ.out
        rw [List.drop_length] at this
        simpa [Stf.body] using this
      have HE := hid heq
      clear heq HEQ
      go_wp2_with ((at_builtin; refine wpList_buf wc.heap.size _ rfl _ _ rfl _ o [46, 13, 10] rfl (HBUF.out.alloc _) _ 3 3 rfl rfl (lit_bytes _ [46, 13, 10] _ _ rfl) (by simp; omega) ?_; intro v' w1 hr1 hb1; have HR1 := hid hr1; clear hr1))
      go_ret
      refine ⟨_, rfl, ?_, HBE4.out.trans ((HBE.out.trans ((Below.refl _ _).alloc HBUF.out.2 _ |>.trans hb1)).mono HBUF4.out.2)⟩
      rw [← HE.out]
      exact HR1.out.mono HBUF4.out.2

end Go.Proofs.YtnphpinnkmndfaaDoor
