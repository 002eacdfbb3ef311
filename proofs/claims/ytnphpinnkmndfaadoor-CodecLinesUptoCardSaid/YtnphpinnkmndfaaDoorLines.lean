/-
  CodecLines walked.
-/
import Derived.Test.YtnphpinnkmndfaaDoorShown
import Derived.Test.YtnphpinnkmndfaaDoorLinesLaw
import Derived.Lib.AtoiErrMem
namespace Go.Proofs.YtnphpinnkmndfaaDoor
open Go.RowKit Own Dec
set_option linter.unusedVariables false
set_option linter.unusedSimpArgs false
set_option maxRecDepth 100000

attribute [local go_sem] str_toList str_size

theorem Buf.bytes {B : Nat} {w : World} {v : Value} {bs : List UInt8} (h : Buf B w v bs) (s : ByteArray) : Buf B (Lib.bytesWorld w 5 s) v bs := h.keep (Lib.bytesWorld_below w 5 s)
theorem bytes_src (w : World) (l : List UInt8) : Src (Lib.bytesWorld w 5 (str l)) (some ⟨w.heap.size, 0, none⟩) (bv l) := by
  refine ⟨(fun h => by cases h), fun p hp j u hu => ?_⟩
  obtain rfl : (⟨w.heap.size, 0, none⟩ : Addr) = p := Option.some.inj hp
  have hj : j < l.length := by have := (List.getElem?_eq_some_iff.1 hu).1; rwa [bv_len] at this
  have := Lib.bytesWorld_cell w 5 (str l) j (by rw [str_size]; exact hj)
  rw [Addr.add_lit, Nat.zero_add, this]
  rw [bv_at (List.getElem?_eq_getElem hj)] at hu
  rw [← hu]
  simp [str, List.getD, hj]
theorem len2 (bs : List UInt8) : (bs ++ [13, 10]).length = bs.length + 2 := by simp
theorem stuff_cut (l : List UInt8) : ∃ L R, Stf.cut (Stf.stuffP l) = some (L, R) := by
  by_cases h : l = []
  · subst h; exact ⟨_, _, Stf.line_end.1⟩
  · obtain ⟨L, a, l2, h1, _⟩ := Stf.line_step h
    exact ⟨_, _, h1⟩

set_option maxHeartbeats 8000000 in
theorem lines_walk (A : Option Addr) (nn cc : Nat) (bs : List UInt8) (w : World) (hG : GoodC w) (hs : Src w A (bv bs)) (hn : nn = bs.length) (hcap : nn ≤ cc) (hb : bs.length ≤ 1048576) :
    Calls Tryd.prog 6 #[.slice A nn cc] w fun e w' => e = .returned (.bool true) ∧ Below w.heap.size w w' := by
  subst hn
  obtain ⟨T, hTA, hTc⟩ := Stf.all_test bs
  obtain ⟨X, hX⟩ : ∃ X, X = Stf.stuffP bs := ⟨_, rfl⟩
  have hst := fun W hg h1 => stuff_any A bs.length cc bs W hg h1 rfl hcap (by omega)
  have hXb := Stf.stuff_len bs
  rw [← hX] at hst hXb
  have hXm : X.length ≤ 3000000 := by omega
  clear hXb
  have HX := hid hX
  have HS := hid hs
  have HTA := hid hTA
  have HTC := hid hTc
  have HAL := hid (Stf.all_len bs)
  have kc := fun (W : World) (s : ByteArray) => Lib.run_convert_string_bytes (P := Tryd.prog) W 9 22 5 s Tryd.underlying9 Tryd.underlying22 Tryd.underlying5
  clear hs hX hTA hTc
  go_enter Tryd.func6, Tryd.ntmps6
  go_wp2_with (first
    | (go_at_call 10; refine (shown_any w hG).mono ?_; rintro e w1 ⟨rfl, c1⟩; have b1 := hid c1; clear c1)
    | (go_at_call 15; refine (hst _ (hG.below b1.out) (HS.out.below b1.out)).mono ?_; rintro e w2 ⟨v2, rfl, hr2, c2⟩; obtain ⟨A2, k2, rfl, hk2, hs2⟩ := hr2.full; have b2 := hid (below_then b1.out c2); have HS2 := hid hs2; have HB5 := hid (Buf.lit w2 [] (by simp)); have L5 := hid ((Below.refl w2.heap.size w2).alloc (Nat.le_refl _) (.cells (bv []).toArray 5 (0, 0))); clear c2 hr2 hs2))
  have hXne : X ≠ [] := by
    intro h
    obtain ⟨L, R, hc⟩ := stuff_cut bs
    have := Stf.cut_eq hc
    rw [← HX.out, h] at this
    simp at this
  obtain ⟨p, rfl⟩ := src_some HS2.out hXne
  clear hXne
  go_loopw [5, 6, 7, 8] (fun v5 v6 v7 v8 wr => ∃ (i fr : Nat) (o l L R : List UInt8), v6 = .int .i64 fr ∧ v7 = .bool false ∧ v8 = .int .i64 i ∧ 1 ≤ i ∧ fr ≤ i ∧ X.drop fr = Stf.stuffP l ∧ Stf.cut (Stf.stuffP l) = some (L, R) ∧ i ≤ fr + L.length + 1 ∧ (fr = i → X.getD (i - 1) 0 ≠ 13) ∧ o ++ Stf.allR l = Stf.allR bs ∧ Buf w2.heap.size wr v5 o ∧ Below w2.heap.size w2 wr) (fun _ _ _ v8 _ => X.length - (intOf v8).toNat)
  case atStart =>
    obtain ⟨L, R, hc⟩ := stuff_cut bs
    exact ⟨1, 0, [], bs, L, R, rfl, rfl, rfl, Nat.le_refl _, by omega, HX.out, hc, by omega, fun h => by omega, rfl, HB5.out, L5.out⟩
  case round =>
    obtain ⟨i, fr, o, l, L, R, rfl, rfl, rfl, hi1, hfi, hdr, hcut, hiL, hfe, heq, hbuf, hbel⟩ := hrel
    have hXl : X.length = fr + L.length + 2 + R.length := by
      have h1 := congrArg List.length hdr
      rw [Stf.cut_eq hcut, List.length_drop, List.length_append] at h1
      simp at h1
      omega
    have hat : ∀ j, X[fr + j]? = (Stf.stuffP l)[j]? := fun j => by rw [← hdr, List.getElem?_drop]
    have hiX : i < X.length := by omega
    obtain ⟨c1, hc1⟩ : ∃ c, X[i - 1]? = some c := ⟨_, List.getElem?_eq_getElem (by omega)⟩
    obtain ⟨c2, hc2⟩ : ∃ c, X[i]? = some c := ⟨_, List.getElem?_eq_getElem (by omega)⟩
    have hsr := HS2.out.below hbel
    have hx1 := hsr.2 p rfl (i - 1) _ (bv_at hc1)
    have hx2 := hsr.2 p rfl i _ (bv_at hc2)
    have HCUT := hid hcut
    have HDR := hid hdr
    have HEQ := hid heq
    have HBUF := hid hbuf
    have HBE := hid hbel
    have HXL := hid hXl
    have HSR := hid hsr
    by_cases hin : i < fr + L.length + 1
    · have hnot : ¬ (c1 = 13 ∧ c2 = 10) := by
        rintro ⟨rfl, rfl⟩
        by_cases hf : fr = i
        · exact hfe hf (by simp [List.getD, hc1])
        · refine Stf.cut_no hcut (i - 1 - fr) (by omega) ⟨?_, ?_⟩
          · rw [← hat, show fr + (i - 1 - fr) = i - 1 by omega, hc1]
          · rw [← hat, show fr + (i - 1 - fr + 1) = i by omega, hc2]
      clear hcut hdr heq hbuf hbel hXl hsr hat hc1 hc2 hfe
      by_cases h13 : c1 = 13
      · have e3 : ((c1.toNat : Int) != 13) = false := by rw [h13]; rfl
        have e4 : ((c2.toNat : Int) != 10) = true := by
          rw [bne_iff_ne]; intro h; exact hnot ⟨h13, UInt8.toNat_inj.mp (by simpa using (by omega : c2.toNat = 10))⟩
        clear h13 hnot
        go_wp2
        go_roundw
        case rel => exact ⟨i + 1, fr, o, l, L, R, rfl, rfl, by go_num, by omega, by omega, HDR.out, HCUT.out, by omega, fun h => by omega, HEQ.out, HBUF.out, HBE.out⟩
        case measure => simp [intOf]; omega
      · have e3 : ((c1.toNat : Int) != 13) = true := by
          rw [bne_iff_ne]; intro h; exact h13 (UInt8.toNat_inj.mp (by simpa using (by omega : c1.toNat = 13)))
        clear h13 hnot
        go_wp2
        go_roundw
        case rel => exact ⟨i + 1, fr, o, l, L, R, rfl, rfl, by go_num, by omega, by omega, HDR.out, HCUT.out, by omega, fun h => by omega, HEQ.out, HBUF.out, HBE.out⟩
        case measure => simp [intOf]; omega
    · have hie : i = fr + L.length + 1 := by omega
      have h13 : c1 = 13 := by
        have := hat L.length
        rw [show fr + L.length = i - 1 by omega, hc1, Stf.cut_eq hcut] at this
        simpa using this
      have h10 : c2 = 10 := by
        have := hat (L.length + 1)
        rw [show fr + (L.length + 1) = i by omega, hc2, Stf.cut_eq hcut] at this
        simpa using this
      have e3 : ((c1.toNat : Int) != 13) = false := by rw [h13]; rfl
      have e4 : ((c2.toNat : Int) != 10) = false := by rw [h10]; rfl
      have hsL : Src wr (some (p.add fr)) (bv L) := by
        have h1 := (hsr.drop fr).take L.length
        rw [← bv_drop, ← bv_take, hdr, Stf.cut_eq hcut, List.take_left] at h1
        exact h1
      have cv := conv_src hsL (i - 1 - fr) (k2 - fr) (by omega)
      have hcapf : i - 1 ≤ k2 := by omega
      have hfi1 : fr ≤ i - 1 := by omega
      have HC2 := hid (hc2.trans (congrArg some h10))
      clear hcut hdr heq hbuf hbel hXl hsr hat hc1 hc2 hfe h13 h10 hsL hin
      have HIE := hid hie
      clear hie
      by_cases hl : l = []
      · subst hl
        have hLR : L = [46] ∧ R = [] := by have := HCUT.out; rw [Stf.line_end.1] at this; simpa using this.symm
        obtain ⟨rfl, rfl⟩ := hLR
        have hun := fun W => unstuff_any [46] W
        rw [Stf.line_end.2] at hun
        have hxl := HXL.out
        have hie := HIE.out
        simp only [List.length_cons, List.length_nil] at hxl hie
        have e5 : (((i : Int) + 1) == (X.length : Int)) = true := by rw [beq_iff_eq]; omega
        have ho : o = Stf.allR bs := by have := HEQ.out; rw [Stf.all_nil, List.append_nil] at this; exact this
        have HO := hid ho
        have hbs := HS.out.below (below_then b2.out HBE.out)
        have cvb := conv_src hbs bs.length cc rfl
        obtain ⟨A5, k5, rfl, -, -⟩ := HBUF.out.full
        have cvo := HBUF.out.conv
        have HBS := hid hbs
        clear hxl hie ho hbs HCUT HXL HIE HDR
        rcases HTC.out with ⟨h0, ht⟩ | ⟨h0, ht⟩ | ⟨a, b, h0, ha, hb, ht⟩
        · have h1 : bs.length ≤ 0 := by omega
          have HT := hid ht
          clear h0 ht
          have hoT : o = bs := by have := HO.out; rw [this, HTA.out, HT.out]; rfl
          clear HO HT
          subst hoT
          go_wp2_with ((go_at_call 16; refine (hun _).mono ?_; rintro e w4 ⟨rfl, rfl⟩))
          go_ret
          exact ⟨rfl, below_then b2.out HBE.out⟩
        · have h1 : bs.length < 2 := by omega
          have h2 : 1 ≤ bs.length := by omega
          have HT := hid ht
          clear h0 ht
          have hoT : o = bs ++ [13, 10] := by have := HO.out; rw [this, HTA.out, HT.out]; rfl
          clear HO HT
          subst hoT
          rw [len2] at cvo
          have hap : str bs ++ ({ data := #[13, 10] } : ByteArray) = str (bs ++ [13, 10]) := str_append bs [13, 10]
          go_wp2_with ((go_at_call 16; refine (hun _).mono ?_; rintro e w4 ⟨rfl, rfl⟩))
          go_ret
          exact ⟨rfl, below_then b2.out HBE.out⟩
        · have hne3 : bs ≠ [] := fun h => by rw [h] at h0; simp at h0
          obtain ⟨p0, rfl⟩ := src_some HBS.out hne3
          have hy1 := HBS.out.2 p0 rfl (bs.length - 2) (.int .u8 a.toNat) (bv_at ha)
          have hy2 := HBS.out.2 p0 rfl (bs.length - 1) (.int .u8 b.toNat) (bv_at hb)
          clear ha hb hne3
          by_cases h13 : a = 13
          · have e6 : ((a.toNat : Int) != 13) = false := by rw [h13]; rfl
            by_cases h10 : b = 10
            · have e7 : ((b.toNat : Int) != 10) = false := by rw [h10]; rfl
              have HT : Hid (T = false) := hid (by rw [ht, h13, h10]; rfl)
              clear h13 h10 ht
              have hoT : o = bs := by have := HO.out; rw [this, HTA.out, HT.out]; rfl
              clear HO HT
              subst hoT
              go_wp2_with ((go_at_call 16; refine (hun _).mono ?_; rintro e w4 ⟨rfl, rfl⟩))
              go_ret
              exact ⟨rfl, below_then b2.out HBE.out⟩
            · have e7 : ((b.toNat : Int) != 10) = true := by
                rw [bne_iff_ne]; intro h; exact h10 (UInt8.toNat_inj.mp (by simpa using (by omega : b.toNat = 10)))
              have HT : Hid (T = true) := hid (by rw [ht, beq_eq_false_iff_ne.2 h10]; simp)
              clear h13 h10 ht
              have hoT : o = bs ++ [13, 10] := by have := HO.out; rw [this, HTA.out, HT.out]; rfl
              clear HO HT
              subst hoT
              rw [len2] at cvo
              have hap : str bs ++ ({ data := #[13, 10] } : ByteArray) = str (bs ++ [13, 10]) := str_append bs [13, 10]
              go_wp2_with ((go_at_call 16; refine (hun _).mono ?_; rintro e w4 ⟨rfl, rfl⟩))
              go_ret
              exact ⟨rfl, below_then b2.out HBE.out⟩
          · have e6 : ((a.toNat : Int) != 13) = true := by
              rw [bne_iff_ne]; intro h; exact h13 (UInt8.toNat_inj.mp (by simpa using (by omega : a.toNat = 13)))
            have HT : Hid (T = true) := hid (by rw [ht, beq_eq_false_iff_ne.2 h13]; rfl)
            clear h13 ht
            have hoT : o = bs ++ [13, 10] := by have := HO.out; rw [this, HTA.out, HT.out]; rfl
            clear HO HT
            subst hoT
            rw [len2] at cvo
            have hap : str bs ++ ({ data := #[13, 10] } : ByteArray) = str (bs ++ [13, 10]) := str_append bs [13, 10]
            go_wp2_with ((go_at_call 16; refine (hun _).mono ?_; rintro e w4 ⟨rfl, rfl⟩))
            go_ret
            exact ⟨rfl, below_then b2.out HBE.out⟩
      · obtain ⟨L1, a, l2, hcut1, hun1, hall, hlen, -⟩ := Stf.line_step hl
        have hLR : L = L1 ∧ R = Stf.stuffP l2 := by have := HCUT.out; rw [hcut1] at this; simpa using this.symm
        obtain ⟨rfl, rfl⟩ := hLR
        have hun := fun W => unstuff_any L W
        rw [hun1] at hun
        have heq := HEQ.out
        rw [hall, ← List.append_assoc, ← List.append_assoc] at heq
        have hol := congrArg List.length heq
        simp only [List.length_append] at hol
        have hal := HAL.out
        have hoa : o.length + a.length ≤ 2000000 := by omega
        have HEQ2 := hid heq
        have hdr2 : X.drop (i + 1) = Stf.stuffP l2 := by
          rw [HIE.out, show fr + L.length + 1 + 1 = fr + (L.length + 2) by omega, ← List.drop_drop, HDR.out, Stf.cut_eq HCUT.out]
          rw [show L ++ 13 :: 10 :: Stf.stuffP l2 = (L ++ [13, 10]) ++ Stf.stuffP l2 by simp, show L.length + 2 = (L ++ [13, 10]).length by simp, List.drop_left]
        have HDR2 := hid hdr2
        clear hcut1 hun1 hall hlen heq hol hal hdr2 hl HDR HCUT HEQ HXL
        have tok0 : Tok 0 := ⟨⟩
        go_wp2_with (first
          | (go_at_call 16; refine (hun _).mono ?_; rintro e w4 ⟨rfl, rfl⟩)
          | (at_builtin; have t_ : Tok 0 := ‹Tok 0›; refine wpList_buf w2.heap.size _ rfl _ _ rfl u5 o a rfl (HBUF.out.bytes _) _ _ _ rfl (by first | rfl | exact str_size a) (bytes_src _ a) (by omega) ?_; intro v' w1 hr1 hb1; have HR1 := hid hr1; have HB1 := hid ((HBE.out.trans (Lib.bytesWorld_below _ _ _ |>.mono HBUF.out.2)).trans hb1); clear hr1 hb1; clear t_; clear tok0; have tok1 : Tok 1 := ⟨⟩)
          | (at_builtin; have t_ : Tok 1 := ‹Tok 1›; refine wpList_buf w2.heap.size _ rfl _ _ rfl v' (o ++ a) [13, 10] rfl (HR1.out.alloc _) _ 2 2 rfl rfl (lit_bytes _ [13, 10] _ _ rfl) (by simp; omega) ?_; intro v'' w3 hr2 hb2; have HR2 := hid hr2; have HB2 := hid ((HB1.out.alloc HR1.out.2 _).trans hb2); clear hr2 hb2; clear t_; clear tok1; have tok2 : Tok 2 := ⟨⟩))
        go_roundw
        case rel =>
          obtain ⟨L2, R2, hc2⟩ := stuff_cut l2
          exact ⟨i + 1, i + 1, o ++ a ++ [13, 10], l2, L2, R2, by go_num, rfl, by go_num, by omega, by omega, HDR2.out, hc2, by omega, (fun _ => by rw [show i + 1 - 1 = i by omega]; simp [List.getD, HC2.out]), HEQ2.out, HR2.out, HB2.out⟩
        case measure => simp [intOf]; omega

end Go.Proofs.YtnphpinnkmndfaaDoor
