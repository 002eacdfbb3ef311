/-
  The reference's Decode64.
-/
import Derived.Test.YtnphpinnkmndfaaDoorREnc
import Derived.Test.YtnphpinnkmndfaaDoorRVal
import Derived.Test.YtnphpinnkmndfaaDoorDecode
namespace Go.Proofs.YtnphpinnkmndfaaDoor
open Go.RowKit Own Dec
set_option linter.unusedVariables false
set_option linter.unusedSimpArgs false
set_option maxRecDepth 100000

attribute [local go_sem] str_toList str_size

theorem rdec_shift {o : List UInt8} {x : UInt8} {X D : Option (List UInt8)} (h : (X.map fun y => x :: y).map (fun y => o ++ y) = D) : X.map (fun y => (o ++ [x]) ++ y) = D := by
  rw [← h]
  cases X <;> simp

set_option maxHeartbeats 4000000 in
theorem rdecode_any (l : List UInt8) (w : World) (hl : l.length ≤ 17592186044416) :
    Calls Tryd.prog 13 #[.string (str l)] w fun e w' => ∃ v, e = .returned (.tuple #[v, .int .i64 (Enc.decV l).2]) ∧ Buf w.heap.size w' v (Enc.decV l).1 ∧ Below w.heap.size w w' := by
  have hsz := str_size l
  have HB0 := hid (Buf.lit w [] (by simp))
  have L0 := hid ((Below.refl w.heap.size w).alloc (Nat.le_refl _) (.cells (bv []).toArray 5 (0, 0)))
  go_enter Tryd.func13, Tryd.ntmps13
  go_wp2_with fail
  go_loopw [4, 5, 6, 7, 8] (fun v4 v5 v6 v7 v8 wr => ∃ (i n m : Nat) (k6 : Int) (o : List UInt8), i ≤ l.length ∧ m < 4 ∧ n < 4 ^ m ∧ v5 = .int .i64 n ∧ v6 = .int .i64 k6 ∧ k6 = 2 * m ∧ v7 = .int .i64 i ∧ (Enc.rdec n m (l.drop i)).map (fun y => o ++ y) = Enc.rdec 0 0 l ∧ o.length ≤ i ∧ Buf w.heap.size wr v4 o ∧ Below w.heap.size w wr) (fun _ _ _ v7 _ _ => l.length - (intOf v7).toNat)
  case atStart => exact ⟨0, 0, 0, 0, [], Nat.zero_le _, by omega, by decide, rfl, rfl, rfl, rfl, by simp, by simp, HB0.out, L0.out⟩
  case round =>
    obtain ⟨i, n, m, k6, o, hi, hm, hn4, rfl, rfl, hk6, rfl, hdec, hoi, hbuf, hbel⟩ := hrel
    have HDEC := hid hdec
    have HBUF := hid hbuf
    have HBE := hid hbel
    clear hdec hbuf hbel
    by_cases hgo : i < l.length ∧ l.getD i 0 ≠ 61
    · obtain ⟨hil, hne⟩ := hgo
      have e1 : decide ((i : Int) < l.length) = true := decide_eq_true (by omega)
      obtain ⟨c, hc⟩ : ∃ c, c = l[i] := ⟨_, rfl⟩
      have hix : ∀ h, (str l)[i]'h = c := by intro h; rw [hc]; rfl
      have hgd : l.getD i 0 = c := by simp [List.getD, hil, hc]
      rw [hgd] at hne
      have e2 : ((c.toNat : Int) != 61) = true := by
        rw [bne_iff_ne]; intro h; exact hne (UInt8.toNat_inj.mp (by simpa using (by omega : c.toNat = 61)))
      have hdr : l.drop i = c :: l.drop (i + 1) := by rw [List.drop_eq_getElem_cons hil, hc]
      have hdec := HDEC.out
      rw [hdr, Enc.rdec_cons, if_neg hne] at hdec
      have hVA := fun W => value_any c W
      rcases Enc.lv_rng c with hk | ⟨k, hk, hk64, hc122⟩
      · rw [hk] at hVA hdec
        rw [if_pos (by omega)] at hdec
        have hdV := Enc.decV_rnone (s := l) hdec.symm
        have HDV := hid hdV
        clear hdec hdV hdr hgd hne hc hk hk6 hm hn4
        go_wp2_with ((go_at_call 32; refine (hVA _).mono ?_; rintro e w1 ⟨rfl, rfl⟩))
        exact bodyPost_ret (v := .tuple #[.slice none 0 0, .int .i64 70]) (by simp [results, Tryd.results13, go_sem]) rfl ⟨_, by rw [HDV.out], by rw [HDV.out]; exact Buf.nil HBE.out.size, HBE.out⟩
      · rw [hk] at hVA hdec
        rw [if_neg (by omega), Int.toNat_natCast] at hdec
        have e3 : decide ((k : Int) < 0) = false := decide_eq_false (by omega)
        have hm4 : m = 0 ∨ m = 1 ∨ m = 2 ∨ m = 3 := by omega
        have HD := hid hdec
        have HK6 := hid hk6
        clear hdec hdr hgd hne hc hk hk6 hc122
        obtain ⟨N, hN⟩ : ∃ N, N = 64 * n + k := ⟨_, rfl⟩
        rcases hm4 with rfl | rfl | rfl | rfl
        · obtain rfl : k6 = 0 := by have := HK6.out; omega
          obtain rfl : n = 0 := by simpa using hn4
          have hd := HD.out
          rw [if_pos rfl] at hd
          have HD2 := hid hd
          clear hd HD hn4 hm HK6 hN
          go_wp2_with ((go_at_call 32; refine (hVA _).mono ?_; rintro e w1 ⟨rfl, rfl⟩))
          go_roundw
          case rel => exact ⟨i + 1, k, 3, 6, o, by omega, by omega, by simpa using hk64, by first | rfl | simp, rfl, rfl, by go_num, by have := HD2.out; simpa using this, by omega, HBUF.out, HBE.out⟩
          case measure => simp [intOf]; omega
        · obtain rfl : k6 = 2 := by have := HK6.out; omega
          have hn : n < 4 := by simpa using hn4
          have hd := HD.out
          rw [if_neg (by omega), ← hN] at hd
          obtain ⟨x, hx⟩ : ∃ x, x = UInt8.ofNat (N / 1) := ⟨_, rfl⟩
          have hd2 := rdec_shift hd
          rw [show UInt8.ofNat (N / 4 ^ (1 - 1)) = x from hx.symm] at hd2
          have hNb : N < 256 := by omega
          have hxv : (x.toNat : Int) = (N : Int) / 1 := by rw [hx, UInt8.toNat_ofNat']; omega
          have hxw : (x.toNat : Int) = (64 * (n : Int) + (k : Int)) := by rw [hxv, hN]; omega
          have hbt : bits .and .i64 (64 * (n : Int) + (k : Int)) 0 = ((N % 1 : Nat) : Int) := by
            rw [show (64 * (n : Int) + (k : Int)) = (N : Int) by omega]
            exact Bit.low 0 (by decide) N (by omega) 0 rfl
          have HD2 := hid hd2
          have HBT := hid hbt
          have HXW := hid hxw
          clear hd hd2 HD hn4 hm HK6 hN hx hxv hxw hbt
          go_wp2_with (first
            | (go_at_call 32; refine (hVA _).mono ?_; rintro e w1 ⟨rfl, rfl⟩)
            | (at_builtin; refine wpList_buf w.heap.size _ rfl _ _ rfl u4 o [x] rfl (HBUF.out.alloc _) _ 1 1 rfl rfl (one_src _ x _ (by rw [HXW.out])) (by simp; omega) ?_; intro v' w1 hr1 hb1; have HR1 := hid hr1; have HB1 := hid ((HBE.out.alloc HBUF.out.2 _).trans hb1); clear hr1 hb1))
          go_roundw
          case rel => exact ⟨i + 1, N % 1, 0, 0, o ++ [x], by omega, by omega, by simp <;> omega, by first | rfl | rw [HBT.out], rfl, rfl, by go_num, HD2.out, by simp; omega, HR1.out, HB1.out⟩
          case measure => simp [intOf]; omega
        · obtain rfl : k6 = 4 := by have := HK6.out; omega
          have hn : n < 16 := by simpa using hn4
          have hd := HD.out
          rw [if_neg (by omega), ← hN] at hd
          obtain ⟨x, hx⟩ : ∃ x, x = UInt8.ofNat (N / 4) := ⟨_, rfl⟩
          have hd2 := rdec_shift hd
          rw [show UInt8.ofNat (N / 4 ^ (2 - 1)) = x from hx.symm] at hd2
          have hNb : N < 1024 := by omega
          have hxv : (x.toNat : Int) = (N : Int) / 4 := by rw [hx, UInt8.toNat_ofNat']; omega
          have hxw : (x.toNat : Int) = (64 * (n : Int) + (k : Int)) / 4 := by rw [hxv, hN]; omega
          have hbt : bits .and .i64 (64 * (n : Int) + (k : Int)) 3 = ((N % 4 : Nat) : Int) := by
            rw [show (64 * (n : Int) + (k : Int)) = (N : Int) by omega]
            exact Bit.low 2 (by decide) N (by omega) 3 rfl
          have HD2 := hid hd2
          have HBT := hid hbt
          have HXW := hid hxw
          clear hd hd2 HD hn4 hm HK6 hN hx hxv hxw hbt
          go_wp2_with (first
            | (go_at_call 32; refine (hVA _).mono ?_; rintro e w1 ⟨rfl, rfl⟩)
            | (at_builtin; refine wpList_buf w.heap.size _ rfl _ _ rfl u4 o [x] rfl (HBUF.out.alloc _) _ 1 1 rfl rfl (one_src _ x _ (by rw [HXW.out])) (by simp; omega) ?_; intro v' w1 hr1 hb1; have HR1 := hid hr1; have HB1 := hid ((HBE.out.alloc HBUF.out.2 _).trans hb1); clear hr1 hb1))
          go_roundw
          case rel => exact ⟨i + 1, N % 4, 1, 2, o ++ [x], by omega, by omega, by simp <;> omega, by first | rfl | rw [HBT.out], rfl, rfl, by go_num, HD2.out, by simp; omega, HR1.out, HB1.out⟩
          case measure => simp [intOf]; omega
        · obtain rfl : k6 = 6 := by have := HK6.out; omega
          have hn : n < 64 := by simpa using hn4
          have hd := HD.out
          rw [if_neg (by omega), ← hN] at hd
          obtain ⟨x, hx⟩ : ∃ x, x = UInt8.ofNat (N / 16) := ⟨_, rfl⟩
          have hd2 := rdec_shift hd
          rw [show UInt8.ofNat (N / 4 ^ (3 - 1)) = x from hx.symm] at hd2
          have hNb : N < 4096 := by omega
          have hxv : (x.toNat : Int) = (N : Int) / 16 := by rw [hx, UInt8.toNat_ofNat']; omega
          have hxw : (x.toNat : Int) = (64 * (n : Int) + (k : Int)) / 16 := by rw [hxv, hN]; omega
          have hbt : bits .and .i64 (64 * (n : Int) + (k : Int)) 15 = ((N % 16 : Nat) : Int) := by
            rw [show (64 * (n : Int) + (k : Int)) = (N : Int) by omega]
            exact Bit.low 4 (by decide) N (by omega) 15 rfl
          have HD2 := hid hd2
          have HBT := hid hbt
          have HXW := hid hxw
          clear hd hd2 HD hn4 hm HK6 hN hx hxv hxw hbt
          go_wp2_with (first
            | (go_at_call 32; refine (hVA _).mono ?_; rintro e w1 ⟨rfl, rfl⟩)
            | (at_builtin; refine wpList_buf w.heap.size _ rfl _ _ rfl u4 o [x] rfl (HBUF.out.alloc _) _ 1 1 rfl rfl (one_src _ x _ (by rw [HXW.out])) (by simp; omega) ?_; intro v' w1 hr1 hb1; have HR1 := hid hr1; have HB1 := hid ((HBE.out.alloc HBUF.out.2 _).trans hb1); clear hr1 hb1))
          go_roundw
          case rel => exact ⟨i + 1, N % 16, 2, 4, o ++ [x], by omega, by omega, by simp <;> omega, by first | rfl | rw [HBT.out], rfl, rfl, by go_num, HD2.out, by simp; omega, HR1.out, HB1.out⟩
          case measure => simp [intOf]; omega
    · have hdec := HDEC.out
      have hend : Enc.rdec n m (l.drop i) = some [] := by
        by_cases hil : i < l.length
        · have : l.getD i 0 = 61 := Classical.byContradiction fun h => hgo ⟨hil, h⟩
          have h2 : l[i] = 61 := by simpa [List.getD, hil] using this
          rw [List.drop_eq_getElem_cons hil, h2, Enc.rdec_eq]
        · rw [List.drop_eq_nil_of_le (by omega)]; rfl
      rw [hend] at hdec
      have hdv := Enc.decV_rsome (s := l) (o := o) (by rw [← hdec]; simp)
      obtain ⟨A1, c1, rfl, hc1, hsrc⟩ := HBUF.out.full
      have hen := rencode_any A1 o.length c1 o wr hsrc rfl (by omega)
      have hcs : (i < l.length ∧ l.getD i 0 = 61) ∨ ¬ i < l.length := by
        by_cases hil : i < l.length
        · exact .inl ⟨hil, Classical.byContradiction fun h => hgo ⟨hil, h⟩⟩
        · exact .inr hil
      clear hdec hend hgo hk6 hm hn4 hsrc hc1 HDEC
      by_cases heq : Enc.enc o = l
      · rw [if_pos heq] at hdv
        have e5 : (l != l) = false := by simp
        rw [heq] at hen
        have HDV := hid hdv
        clear hdv heq
        rcases hcs with ⟨hil, h61⟩ | hil
        · have e1 : decide ((i : Int) < l.length) = true := decide_eq_true (by omega)
          obtain ⟨c, hc⟩ : ∃ c, c = l[i] := ⟨_, rfl⟩
          have hix : ∀ h, (str l)[i]'h = c := by intro h; rw [hc]; rfl
          have hgd : l.getD i 0 = c := by simp [List.getD, hil, hc]
          have e2 : ((c.toNat : Int) != 61) = false := by rw [← hgd, h61]; rfl
          clear hc hgd h61
          go_wp2_with ((go_at_call 14; refine hen.mono ?_; rintro e w1 ⟨rfl, hb1⟩))
          exact bodyPost_ret (v := .tuple #[.slice A1 o.length c1, .int .i64 0]) (by simp [results, Tryd.results13, go_sem]) rfl ⟨_, by rw [HDV.out], by rw [HDV.out]; exact HBUF.out.keep hb1, HBE.out.trans (hb1.mono HBUF.out.2)⟩
        · have e1 : decide ((i : Int) < l.length) = false := decide_eq_false (by omega)
          go_wp2_with ((go_at_call 14; refine hen.mono ?_; rintro e w1 ⟨rfl, hb1⟩))
          exact bodyPost_ret (v := .tuple #[.slice A1 o.length c1, .int .i64 0]) (by simp [results, Tryd.results13, go_sem]) rfl ⟨_, by rw [HDV.out], by rw [HDV.out]; exact HBUF.out.keep hb1, HBE.out.trans (hb1.mono HBUF.out.2)⟩
      · rw [if_neg heq] at hdv
        have e5 : (Enc.enc o == l) = false := by simpa using heq
        have HDV := hid hdv
        clear hdv heq
        generalize Enc.enc o = E at *
        rcases hcs with ⟨hil, h61⟩ | hil
        · have e1 : decide ((i : Int) < l.length) = true := decide_eq_true (by omega)
          obtain ⟨c, hc⟩ : ∃ c, c = l[i] := ⟨_, rfl⟩
          have hix : ∀ h, (str l)[i]'h = c := by intro h; rw [hc]; rfl
          have hgd : l.getD i 0 = c := by simp [List.getD, hil, hc]
          have e2 : ((c.toNat : Int) != 61) = false := by rw [← hgd, h61]; rfl
          clear hc hgd h61
          go_wp2_with ((go_at_call 14; refine hen.mono ?_; rintro e w1 ⟨rfl, hb1⟩))
          exact bodyPost_ret (v := .tuple #[.slice none 0 0, .int .i64 70]) (by simp [results, Tryd.results13, go_sem]) rfl ⟨_, by rw [HDV.out], by rw [HDV.out]; exact Buf.nil (HBE.out.trans (hb1.mono HBUF.out.2)).size, HBE.out.trans (hb1.mono HBUF.out.2)⟩
        · have e1 : decide ((i : Int) < l.length) = false := decide_eq_false (by omega)
          go_wp2_with ((go_at_call 14; refine hen.mono ?_; rintro e w1 ⟨rfl, hb1⟩))
          exact bodyPost_ret (v := .tuple #[.slice none 0 0, .int .i64 70]) (by simp [results, Tryd.results13, go_sem]) rfl ⟨_, by rw [HDV.out], by rw [HDV.out]; exact Buf.nil (HBE.out.trans (hb1.mono HBUF.out.2)).size, HBE.out.trans (hb1.mono HBUF.out.2)⟩

end Go.Proofs.YtnphpinnkmndfaaDoor
