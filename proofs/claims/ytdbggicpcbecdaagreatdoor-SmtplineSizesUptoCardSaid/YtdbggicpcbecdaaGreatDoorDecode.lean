/-
  The program's Decode64.
-/
import Derived.Test.YtdbggicpcbecdaaGreatDoorLitB
import Derived.Test.YtdbggicpcbecdaaGreatDoorIdx
import Derived.Test.YtdbggicpcbecdaaGreatDoorDecLaw
namespace Go.Proofs.YtdbggicpcbecdaaGreatDoor
open Go.RowKit Own Dec
set_option linter.unusedVariables false
set_option linter.unusedSimpArgs false
set_option maxRecDepth 100000

theorem lit3 (w : World) (n : Nat) (hn : n = w.heap.size) (e0 e1 e2 : Int) (x0 x1 x2 : UInt8) (h0 : e0 = (x0.toNat : Int)) (h1 : e1 = (x1.toNat : Int)) (h2 : e2 = (x2.toNat : Int)) (fr : Nat × Nat) :
    Src (w.alloc (.cells #[.int .u8 e0, .int .u8 e1, .int .u8 e2] 5 fr)) (some ⟨n, 0, none⟩) (bv [x0, x1, x2]) := by
  subst h0 h1 h2
  exact lit_at w [x0, x1, x2] _ fr n hn rfl

theorem Buf.full {B : Nat} {w : World} {v : Value} {bs : List UInt8} (h : Buf B w v bs) : ∃ A c, v = .slice A bs.length c ∧ bs.length ≤ c ∧ Src w A (bv bs) := by
  obtain ⟨A, c, he, hc, _⟩ := h.1.slice
  rw [bv_len] at he hc
  subst he
  exact ⟨A, c, rfl, hc, h.1.src⟩
theorem dec_shift {n V : Nat} {o : List UInt8} {X D : Option (List UInt8)} (h : (((some V).map (Enc.b3 n)).bind fun x => X.map fun y => x ++ y).map (fun y => o ++ y) = D) (B : List UInt8) (hB : Enc.b3 n V = B) : X.map (fun y => (o ++ B) ++ y) = D := by
  subst hB
  rw [← h]
  cases X <;> simp

attribute [local go_sem] str_toList str_size

set_option maxHeartbeats 4000000 in
theorem decode_any (l : List UInt8) (w : World) (hl : l.length ≤ 17592186044416) :
    Calls Tryz.prog 20 #[.string (str l)] w fun e w' => ∃ v, e = .returned (.tuple #[v, .int .i64 (Enc.decV l).2]) ∧ Buf w.heap.size w' v (Enc.decV l).1 ∧ Below w.heap.size w w' := by
  have hsz := str_size l
  have HB0 := hid (Buf.lit w [] (by simp))
  have L0 := hid ((Below.refl w.heap.size w).alloc (Nat.le_refl _) (.cells (bv []).toArray 5 (0, 0)))
  go_enter Tryz.func20, Tryz.ntmps20
  go_wp2_with fail
  go_loopw [4, 5] (fun v4 v5 wr => ∃ (i : Nat) (o : List UInt8), i ≤ l.length ∧ v5 = .int .i64 i ∧ (Enc.decP (l.drop i)).map (fun y => o ++ y) = Enc.decP l ∧ o.length ≤ i ∧ Buf w.heap.size wr v4 o ∧ Below w.heap.size w wr) (fun _ v5 _ => l.length - (intOf v5).toNat)
  case atStart => exact ⟨0, [], Nat.zero_le _, rfl, by simp, by simp, HB0.out, L0.out⟩
  case round =>
    obtain ⟨i, o, hi, rfl, hdec, hoi, hbuf, hbel⟩ := hrel
    have HDEC := hid hdec
    have HBUF := hid hbuf
    have HBE := hid hbel
    clear hdec hbuf hbel
    by_cases hi4 : i + 4 ≤ l.length
    · have e1 : decide ((i : Int) + 4 ≤ l.length) = true := decide_eq_true (by omega)
      obtain ⟨a, b, c, d, R, hR⟩ : ∃ a b c d R, l.drop i = a :: b :: c :: d :: R := by
        have : 4 ≤ (l.drop i).length := by simp; omega
        rcases hh : l.drop i with _ | ⟨a, _ | ⟨b, _ | ⟨c, _ | ⟨d, r⟩⟩⟩⟩ <;> simp [hh] at this
        exact ⟨a, b, c, d, r, rfl⟩
      have hR4 : l.drop (i + 4) = R := by rw [← List.drop_drop, hR]; rfl
      have hdec := HDEC.out
      rw [hR, Enc.decP_step, ← hR4] at hdec
      have hex : (str l).extract i (i + 4) = str [a, b, c, d] := by
        apply ByteArray.ext
        apply Array.ext'
        have : (l.drop i).take 4 = [a, b, c, d] := by rw [hR]; rfl
        simp [str, ByteArray.data_extract, Array.toList_extract, List.extract_eq_take_drop]
        exact this
      have htl := Enc.trim_len [a, b, c, d]
      have hTR : ∀ W, Calls Tryz.prog 17 #[.string (str [a, b, c, d]), .string { data := #[61] }] W fun e w' => e = .returned (.string (str (Lib.trimRightB [a, b, c, d] 61))) ∧ W = w' := fun W => (Tryz.strings_TrimRight_one (str [a, b, c, d]) 61 (by decide) W (by rw [str_size]; simp)).mono fun _ _ ⟨he, hw⟩ => ⟨he, hw.symm⟩
      unfold Enc.decQ at hdec
      generalize Lib.trimRightB [a, b, c, d] 61 = T at *
      have HD := hid hdec
      clear hdec hR hR4
      go_wp2_with (first | (go_at_call 17; refine (hTR _).mono ?_; rintro e w1 ⟨rfl, rfl⟩))
      go_loopw [6, 7] (fun v6 v7 wz => ∃ (pos V : Nat), wz = wr.iter (str T) pos ∧ pos ≤ T.length ∧ Enc.vfold 0 T = Enc.vfold V (T.drop pos) ∧ V < 64 ^ pos ∧ v6 = .int .i64 V ∧ v7 = .int .i64 pos) (fun _ _ wz => T.length - wz.iterPos wr.heap.size)
      case atStart => exact ⟨0, 0, rfl, Nat.zero_le _, rfl, by decide, rfl, rfl⟩
      case round =>
        obtain ⟨pos, V, rfl, hpT, hvf, hV, rfl, rfl⟩ := hrel
        have hpos4 : pos ≤ 4 := Nat.le_trans hpT htl
        have HVF := hid hvf
        have HV := hid hV
        clear hvf hV
        by_cases hp : pos < T.length
        · have hps : pos < (str T).size := by rw [str_size]; exact hp
          obtain ⟨ch, hch, hgc⟩ : ∃ ch, T.drop pos = ch :: T.drop (pos + 1) ∧ (str T)[pos]'hps = ch := ⟨_, List.drop_eq_getElem_cons hp, rfl⟩
          have hvf := HVF.out
          rw [hch, Enc.vfold_cons] at hvf
          have HVF2 := hid hvf
          clear hvf HVF
          have hlt := ch.toNat_lt
          by_cases h128 : ch.toNat < 128
          · have hnx : ∀ ty, (Instr.next (.pointer (some ⟨wr.heap.size, 0, none⟩)) true ty).run Tryz.prog (wr.iter (str T) pos) = .ok (.tuple #[.bool true, .int .i64 pos, .int .i32 ch.toNat]) (wr.iter (str T) (pos + 1)) := fun ty => by
              have := run_next_ascii (P := Tryz.prog) wr (str T) pos ty hps (by rw [hgc]; exact h128)
              rwa [hgc] at this
            have hIB : ∀ W, Calls Tryz.prog 32 #[.string (str Enc.L64), .int .u8 ch.toNat] W fun e w2 => e = .returned (.int .i64 (Enc.lv ch)) ∧ W = w2 := fun W => (Tryz.strings_IndexByte (str Enc.L64) ch.toNat W).mono fun _ _ ⟨he, hw⟩ => ⟨by rw [he, show ((ch.toNat : Int)).toNat.toUInt8 = ch by simp]; rfl, hw.symm⟩
            rcases Enc.lv_rng ch with hk | ⟨k, hk, hk64, hc122⟩
            · rw [hk] at hIB
              have hlvc : (if Enc.lv ch < 0 then (none : Option Nat) else Enc.vfold (V * 64 + (Enc.lv ch).toNat) (T.drop (pos + 1))) = none := if_pos (by omega)
              have hdn := HD.out
              rw [HVF2.out, hlvc] at hdn
              have hdV := Enc.decV_none (s := l) hdn.symm
              have HDV := hid hdV
              clear hdn hdV hlvc HVF2 hgc hch
              by_cases h126 : 126 < ch.toNat
              · have e2 : decide (126 < (ch.toNat : Int)) = true := decide_eq_true (by omega)
                go_wp2_with (first | (go_at_call 32; refine (hIB _).mono ?_; rintro e w1 ⟨rfl, rfl⟩))
                exact bodyPost_ret (v := .tuple #[.slice none 0 0, .int .i64 70]) (by simp [results, Tryz.results20, go_sem]) rfl ⟨_, by rw [HDV.out], by rw [HDV.out]; exact Buf.nil (HBE.out.alloc HBUF.out.2 _).size, HBE.out.alloc HBUF.out.2 _⟩
              · have e2 : decide (126 < (ch.toNat : Int)) = false := decide_eq_false (by omega)
                go_wp2_with (first | (go_at_call 32; refine (hIB _).mono ?_; rintro e w1 ⟨rfl, rfl⟩))
                exact bodyPost_ret (v := .tuple #[.slice none 0 0, .int .i64 70]) (by simp [results, Tryz.results20, go_sem]) rfl ⟨_, by rw [HDV.out], by rw [HDV.out]; exact Buf.nil (HBE.out.alloc HBUF.out.2 _).size, HBE.out.alloc HBUF.out.2 _⟩
            · rw [hk] at hIB
              have hvf := HVF2.out
              rw [if_neg (by omega), hk, Int.toNat_natCast] at hvf
              have e2 : decide (126 < (ch.toNat : Int)) = false := decide_eq_false (by omega)
              have e3 : decide ((k : Int) < 0) = false := decide_eq_false (by omega)
              have hVn : V * 64 + k < 64 ^ (pos + 1) := by rw [Nat.pow_succ]; have := HV.out; omega
              have h64 : (64 : Nat) ^ (pos + 1) ≤ 64 ^ 5 := Nat.pow_le_pow_right (by omega) (by omega)
              have h64' : (64 : Nat) ^ 5 = 1073741824 := rfl
              have hV2 : V * 64 + k < 1073741824 := by omega
              have hjn := Bit.join 6 V k hk64 (by omega)
              rw [show ((V * 2 ^ 6 : Nat) : Int) = (V : Int) * 64 by omega] at hjn
              have HVF3 := hid hvf
              have HVN := hid hVn
              clear hvf hVn h64 h64' HVF2 hk hgc hch
              go_wp2_with (first | (go_at_call 32; refine (hIB _).mono ?_; rintro e w1 ⟨rfl, rfl⟩))
              go_roundw
              case rel => exact ⟨pos + 1, V * 64 + k, rfl, by omega, HVF3.out, HVN.out, by simp, by simp⟩
              case measure => simp; omega
          · have hhi := decode_high (str T) pos hps (by rw [hgc]; omega)
            have hle := decode_le (str T) pos
            have hlvn : Enc.lv ch < 0 := by
              rcases Enc.lv_rng ch with hk | ⟨k, hk, hk64, hc122⟩ <;> omega
            have hlvc : (if Enc.lv ch < 0 then (none : Option Nat) else Enc.vfold (V * 64 + (Enc.lv ch).toNat) (T.drop (pos + 1))) = none := if_pos hlvn
            have hnx : ∀ ty, (Instr.next (.pointer (some ⟨wr.heap.size, 0, none⟩)) true ty).run Tryz.prog (wr.iter (str T) pos) = _ := fun ty => run_next_any (P := Tryz.prog) wr (str T) pos ty hps
            generalize Utf8.decode (str T) pos = rr at *
            obtain ⟨r, rw1⟩ := rr
            have h128r : 128 ≤ r := hhi.1
            have e2 : decide (126 < (r : Int)) = true := decide_eq_true (by omega)
            clear hhi
            have hdn := HD.out
            rw [HVF2.out, hlvc] at hdn
            have hdV := Enc.decV_none (s := l) hdn.symm
            have HDV := hid hdV
            clear hdn hdV hlvc HVF2 hgc hch
            have hIB := fun W (x : Int) => Tryz.strings_IndexByte (str Enc.L64) x W
            go_wp2_with (first | (go_at_call 32; refine (hIB _ _).mono ?_; rintro e w1 ⟨rfl, rfl⟩))
            exact bodyPost_ret (v := .tuple #[.slice none 0 0, .int .i64 70]) (by simp [results, Tryz.results20, go_sem]) rfl ⟨_, by rw [HDV.out], by rw [HDV.out]; exact Buf.nil (HBE.out.alloc HBUF.out.2 _).size, HBE.out.alloc HBUF.out.2 _⟩
        · have hps : ¬ pos < (str T).size := by rw [str_size]; exact hp
          obtain rfl : pos = T.length := by omega
          have hnx : ∀ ty, (Instr.next (.pointer (some ⟨wr.heap.size, 0, none⟩)) true ty).run Tryz.prog (wr.iter (str T) T.length) = _ := fun ty => run_next_end (P := Tryz.prog) wr (str T) T.length ty hps
          have hvf := HVF.out
          rw [List.drop_length] at hvf
          have hdn := HD.out
          rw [show Enc.vfold 0 T = some V from hvf] at hdn
          have hVV := HV.out
          have HD2 := hid hdn
          have hsT := str_size T
          clear hvf hdn HVF HV HD hp
          generalize T.length = n at *
          have hn : n = 0 ∨ n = 1 ∨ n = 2 ∨ n = 3 ∨ n = 4 := by omega
          clear hpT htl hpos4
          rcases hn with rfl | rfl | rfl | rfl | rfl
          · have hV : V < 1 := hVV
            obtain ⟨x0, hx0⟩ : ∃ x0 : UInt8, x0 = UInt8.ofNat (V * 16777216 / 65536) := ⟨_, rfl⟩
            obtain ⟨x1, hx1⟩ : ∃ x1 : UInt8, x1 = UInt8.ofNat (V * 16777216 / 256) := ⟨_, rfl⟩
            obtain ⟨x2, hx2⟩ : ∃ x2 : UInt8, x2 = UInt8.ofNat (V * 16777216) := ⟨_, rfl⟩
            have hxB : Enc.b3 0 V = [] := by rfl
            have hds := dec_shift HD2.out _ hxB
            have t0 : (x0.toNat : Int) = ((V * 16777216 / 65536 : Nat) : Int) % 256 := by rw [hx0, UInt8.toNat_ofNat']; omega
            have t1 : (x1.toNat : Int) = ((V * 16777216 / 256 : Nat) : Int) % 256 := by rw [hx1, UInt8.toNat_ofNat']; omega
            have t2 : (x2.toNat : Int) = ((V * 16777216 : Nat) : Int) % 256 := by rw [hx2, UInt8.toNat_ofNat']; omega
            have HT := hid (And.intro t0 (And.intro t1 t2))
            have HDS := hid hds
            clear hx0 hx1 hx2 hxB hds t0 t1 t2 hVV HD2
            go_wp2_with (first | (at_builtin; refine wpList_buf w.heap.size _ rfl _ _ rfl u4 o [] rfl ((HBUF.out.alloc _).alloc _) _ 0 3 rfl rfl (Src.take (lit3 (wr.iter (str T) 0) _ (by simp [World.iter]) _ _ _ x0 x1 x2 (by rw [HT.out.1] <;> (try simp) <;> omega) (by rw [HT.out.2.1] <;> (try simp) <;> omega) (by rw [HT.out.2.2] <;> (try simp) <;> omega) _) 0) (by simp; omega) ?_; intro v' w1 hr1 hb1))
            go_roundw
            case rel =>
              refine ⟨i + 4, _, by omega, by simp, HDS.out, by simp; omega, hr1, (((HBE.out.alloc HBUF.out.2 _).alloc (HBUF.out.alloc _).2 _).trans hb1)⟩
            case measure => simp [intOf]; omega
          · have hV : V < 64 := hVV
            obtain ⟨x0, hx0⟩ : ∃ x0 : UInt8, x0 = UInt8.ofNat (V * 262144 / 65536) := ⟨_, rfl⟩
            obtain ⟨x1, hx1⟩ : ∃ x1 : UInt8, x1 = UInt8.ofNat (V * 262144 / 256) := ⟨_, rfl⟩
            obtain ⟨x2, hx2⟩ : ∃ x2 : UInt8, x2 = UInt8.ofNat (V * 262144) := ⟨_, rfl⟩
            have hxB : Enc.b3 1 V = [] := by rfl
            have hds := dec_shift HD2.out _ hxB
            have t0 : (x0.toNat : Int) = ((V * 262144 / 65536 : Nat) : Int) % 256 := by rw [hx0, UInt8.toNat_ofNat']; omega
            have t1 : (x1.toNat : Int) = ((V * 262144 / 256 : Nat) : Int) % 256 := by rw [hx1, UInt8.toNat_ofNat']; omega
            have t2 : (x2.toNat : Int) = ((V * 262144 : Nat) : Int) % 256 := by rw [hx2, UInt8.toNat_ofNat']; omega
            have HT := hid (And.intro t0 (And.intro t1 t2))
            have HDS := hid hds
            clear hx0 hx1 hx2 hxB hds t0 t1 t2 hVV HD2
            go_wp2_with (first | (at_builtin; refine wpList_buf w.heap.size _ rfl _ _ rfl u4 o [] rfl ((HBUF.out.alloc _).alloc _) _ 0 3 rfl rfl (Src.take (lit3 (wr.iter (str T) 1) _ (by simp [World.iter]) _ _ _ x0 x1 x2 (by rw [HT.out.1] <;> (try simp) <;> omega) (by rw [HT.out.2.1] <;> (try simp) <;> omega) (by rw [HT.out.2.2] <;> (try simp) <;> omega) _) 0) (by simp; omega) ?_; intro v' w1 hr1 hb1))
            go_roundw
            case rel =>
              refine ⟨i + 4, _, by omega, by simp, HDS.out, by simp; omega, hr1, (((HBE.out.alloc HBUF.out.2 _).alloc (HBUF.out.alloc _).2 _).trans hb1)⟩
            case measure => simp [intOf]; omega
          · have hV : V < 4096 := hVV
            obtain ⟨x0, hx0⟩ : ∃ x0 : UInt8, x0 = UInt8.ofNat (V * 4096 / 65536) := ⟨_, rfl⟩
            obtain ⟨x1, hx1⟩ : ∃ x1 : UInt8, x1 = UInt8.ofNat (V * 4096 / 256) := ⟨_, rfl⟩
            obtain ⟨x2, hx2⟩ : ∃ x2 : UInt8, x2 = UInt8.ofNat (V * 4096) := ⟨_, rfl⟩
            have hxB : Enc.b3 2 V = [x0] := by rw [hx0]; rfl
            have hds := dec_shift HD2.out _ hxB
            have t0 : (x0.toNat : Int) = ((V * 4096 / 65536 : Nat) : Int) % 256 := by rw [hx0, UInt8.toNat_ofNat']; omega
            have t1 : (x1.toNat : Int) = ((V * 4096 / 256 : Nat) : Int) % 256 := by rw [hx1, UInt8.toNat_ofNat']; omega
            have t2 : (x2.toNat : Int) = ((V * 4096 : Nat) : Int) % 256 := by rw [hx2, UInt8.toNat_ofNat']; omega
            have HT := hid (And.intro t0 (And.intro t1 t2))
            have HDS := hid hds
            clear hx0 hx1 hx2 hxB hds t0 t1 t2 hVV HD2
            go_wp2_with (first | (at_builtin; refine wpList_buf w.heap.size _ rfl _ _ rfl u4 o [x0] rfl ((HBUF.out.alloc _).alloc _) _ 1 3 rfl rfl (Src.take (lit3 (wr.iter (str T) 2) _ (by simp [World.iter]) _ _ _ x0 x1 x2 (by rw [HT.out.1] <;> (try simp) <;> omega) (by rw [HT.out.2.1] <;> (try simp) <;> omega) (by rw [HT.out.2.2] <;> (try simp) <;> omega) _) 1) (by simp; omega) ?_; intro v' w1 hr1 hb1))
            go_roundw
            case rel =>
              refine ⟨i + 4, _, by omega, by simp, HDS.out, by simp; omega, hr1, (((HBE.out.alloc HBUF.out.2 _).alloc (HBUF.out.alloc _).2 _).trans hb1)⟩
            case measure => simp [intOf]; omega
          · have hV : V < 262144 := hVV
            obtain ⟨x0, hx0⟩ : ∃ x0 : UInt8, x0 = UInt8.ofNat (V * 64 / 65536) := ⟨_, rfl⟩
            obtain ⟨x1, hx1⟩ : ∃ x1 : UInt8, x1 = UInt8.ofNat (V * 64 / 256) := ⟨_, rfl⟩
            obtain ⟨x2, hx2⟩ : ∃ x2 : UInt8, x2 = UInt8.ofNat (V * 64) := ⟨_, rfl⟩
            have hxB : Enc.b3 3 V = [x0, x1] := by rw [hx0, hx1]; rfl
            have hds := dec_shift HD2.out _ hxB
            have t0 : (x0.toNat : Int) = ((V * 64 / 65536 : Nat) : Int) % 256 := by rw [hx0, UInt8.toNat_ofNat']; omega
            have t1 : (x1.toNat : Int) = ((V * 64 / 256 : Nat) : Int) % 256 := by rw [hx1, UInt8.toNat_ofNat']; omega
            have t2 : (x2.toNat : Int) = ((V * 64 : Nat) : Int) % 256 := by rw [hx2, UInt8.toNat_ofNat']; omega
            have HT := hid (And.intro t0 (And.intro t1 t2))
            have HDS := hid hds
            clear hx0 hx1 hx2 hxB hds t0 t1 t2 hVV HD2
            go_wp2_with (first | (at_builtin; refine wpList_buf w.heap.size _ rfl _ _ rfl u4 o [x0, x1] rfl ((HBUF.out.alloc _).alloc _) _ 2 3 rfl rfl (Src.take (lit3 (wr.iter (str T) 3) _ (by simp [World.iter]) _ _ _ x0 x1 x2 (by rw [HT.out.1] <;> (try simp) <;> omega) (by rw [HT.out.2.1] <;> (try simp) <;> omega) (by rw [HT.out.2.2] <;> (try simp) <;> omega) _) 2) (by simp; omega) ?_; intro v' w1 hr1 hb1))
            go_roundw
            case rel =>
              refine ⟨i + 4, _, by omega, by simp, HDS.out, by simp; omega, hr1, (((HBE.out.alloc HBUF.out.2 _).alloc (HBUF.out.alloc _).2 _).trans hb1)⟩
            case measure => simp [intOf]; omega
          · have hV : V < 16777216 := hVV
            obtain ⟨x0, hx0⟩ : ∃ x0 : UInt8, x0 = UInt8.ofNat (V / 65536) := ⟨_, rfl⟩
            obtain ⟨x1, hx1⟩ : ∃ x1 : UInt8, x1 = UInt8.ofNat (V / 256) := ⟨_, rfl⟩
            obtain ⟨x2, hx2⟩ : ∃ x2 : UInt8, x2 = UInt8.ofNat V := ⟨_, rfl⟩
            have hxB : Enc.b3 4 V = [x0, x1, x2] := by rw [hx0, hx1, hx2]; show [UInt8.ofNat (V * 1 / 65536), UInt8.ofNat (V * 1 / 256), UInt8.ofNat (V * 1)] = _; rw [Nat.mul_one]
            have hds := dec_shift HD2.out _ hxB
            have t0 : (x0.toNat : Int) = ((V / 65536 : Nat) : Int) % 256 := by rw [hx0, UInt8.toNat_ofNat']; omega
            have t1 : (x1.toNat : Int) = ((V / 256 : Nat) : Int) % 256 := by rw [hx1, UInt8.toNat_ofNat']; omega
            have t2 : (x2.toNat : Int) = ((V : Nat) : Int) % 256 := by rw [hx2, UInt8.toNat_ofNat']; omega
            have HT := hid (And.intro t0 (And.intro t1 t2))
            have HDS := hid hds
            clear hx0 hx1 hx2 hxB hds t0 t1 t2 hVV HD2
            go_wp2_with (first | (at_builtin; refine wpList_buf w.heap.size _ rfl _ _ rfl u4 o [x0, x1, x2] rfl ((HBUF.out.alloc _).alloc _) _ 3 3 rfl rfl (Src.take (lit3 (wr.iter (str T) 4) _ (by simp [World.iter]) _ _ _ x0 x1 x2 (by rw [HT.out.1] <;> (try simp) <;> omega) (by rw [HT.out.2.1] <;> (try simp) <;> omega) (by rw [HT.out.2.2] <;> (try simp) <;> omega) _) 3) (by simp; omega) ?_; intro v' w1 hr1 hb1))
            go_roundw
            case rel =>
              refine ⟨i + 4, _, by omega, by simp, HDS.out, by simp; omega, hr1, (((HBE.out.alloc HBUF.out.2 _).alloc (HBUF.out.alloc _).2 _).trans hb1)⟩
            case measure => simp [intOf]; omega
    · have e1 : decide ((i : Int) + 4 ≤ l.length) = false := decide_eq_false (by omega)
      have hdec := HDEC.out
      rw [Enc.decP_end _ (by simp; omega)] at hdec
      have hdV := Enc.decV_some (s := l) (o := o) (by rw [← hdec]; simp)
      obtain ⟨A4, c4, rfl, hcap4, hsrc4⟩ := HBUF.out.full
      have henc := fun W (hb : Below w.heap.size w W) (hW : Src W A4 (bv o)) => encode_any A4 o.length c4 o W hW rfl hcap4 (by omega)
      by_cases heq : Enc.enc o = l
      · rw [if_pos heq] at hdV
        rw [heq] at henc
        have HDV := hid hdV
        clear hdV hdec heq
        go_wp2_with (first | (go_at_call 33; refine (henc wr HBE.out hsrc4).mono ?_; rintro e w1 ⟨rfl, hb1⟩))
        exact bodyPost_ret (v := .tuple #[.slice A4 o.length c4, .int .i64 0]) (by simp [results, Tryz.results20, go_sem]) rfl ⟨_, by rw [HDV.out], by rw [HDV.out]; exact HBUF.out.keep hb1, below_then HBE.out hb1⟩
      · rw [if_neg heq] at hdV
        have e2 : (Enc.enc o == l) = false := by simpa using heq
        have HDV := hid hdV
        clear hdV hdec heq
        go_wp2_with (first | (go_at_call 33; refine (henc wr HBE.out hsrc4).mono ?_; rintro e w1 ⟨rfl, hb1⟩))
        exact bodyPost_ret (v := .tuple #[.slice none 0 0, .int .i64 70]) (by simp [results, Tryz.results20, go_sem]) rfl ⟨_, by rw [HDV.out], by rw [HDV.out]; exact Buf.nil (below_then HBE.out hb1).size, below_then HBE.out hb1⟩

end Go.Proofs.YtdbggicpcbecdaaGreatDoor
