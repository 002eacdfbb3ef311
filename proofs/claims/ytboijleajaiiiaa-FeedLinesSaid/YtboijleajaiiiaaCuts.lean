/-
  The walk of FeedCuts: it answers true, and of what was there nothing is turned.
-/
import Derived.Test.YtboijleajaiiiaaBun
namespace Go.Proofs.Ytboijleajaiiiaa
open Go.RowKit Own
set_option linter.unusedVariables false
set_option linter.unusedSimpArgs false

set_option maxHeartbeats 4000000 in
set_option maxRecDepth 100000 in
theorem cuts_walk (most : Int) (A0 : Option Addr) (n0 c0 : Nat) (bs : List UInt8) (A1 : Option Addr) (n1 c1 : Nat) (zs : List Int) (w : World) (mm : Int) (hm : w.cell? ⟨0, 0, none⟩ = some (.int .i64 mm))
    (hs0 : Src w A0 (bv bs)) (hn0 : n0 = bs.length) (hc0 : n0 ≤ c0) (hm0 : c0 ≤ maxLen) (hA0 : A0 = none → n0 = 0 ∧ c0 = 0)
    (hs1 : Src w A1 (iv zs)) (hn1 : n1 = zs.length) (hm1 : n1 ≤ 2305843009213693952) (hz : ∀ x ∈ zs, -9223372036854775808 ≤ x ∧ x ≤ 9223372036854775807) :
    Calls Try.prog 3 #[.int .i64 most, .slice A0 n0 c0, .slice A1 n1 c1] w fun e w' => e = .returned (.bool true) ∧ Below w.heap.size w w' := by
  have hg0 : (⟨0, 0, none⟩ : Addr).block < w.heap.size := World.block_lt_of_cell? w _ hm
  have hln : n0 ≤ 9223372036854775807 := by unfold maxLen at hm0; omega
  have hlc : c0 ≤ 9223372036854775807 := by unfold maxLen at hm0; omega
  have HN0 := hid hn0
  have HN1 := hid hn1
  have HA0 := hid hA0
  obtain ⟨M, hM⟩ : ∃ M : Int, M = (if most < 2 then 2 else most) := ⟨_, rfl⟩
  have HM := hid hM
  have tok0 : Tok 0 := ⟨⟩
  clear hn0 hn1 hA0 hm0 hM
  go_enter Try.func3, Try.ntmps3
  go_upto_if 39 with (first
    | (go_at_call 6; refine (shown_any w mm hm).mono ?_; rintro e w1 ⟨rfl, L1⟩)
    | (go_at_call 7; have t_ : Tok 0 := ‹Tok 0›; refine (new_st w.heap.size most w1 L1.size).mono ?_; rintro e w2 ⟨gx, S2, rfl, h2, hx2, hf2⟩; rw [← HM.out] at h2; have L2 := L1.trans (hf2.below (fun _ h => h.elim) L1.size); clear t_ tok0; have tok1 : Tok 1 := ⟨⟩)
    | (go_at_call 7; have t_ : Tok 1 := ‹Tok 1›; refine (new_st w.heap.size most w2 L2.size).mono ?_; rintro e w3 ⟨gy, S3, rfl, h3, hx3, hf3⟩; rw [← HM.out] at h3; have L3 := L2.trans (hf3.below (fun _ h => h.elim) L2.size); clear t_ tok1))
  go_cut [1] (fun s0 wx => s0 = .slice A0 (min n0 3000) c0 ∧ wx = w3)
  case first =>
    by_cases hlt : (3000 : Int) < n0
    · have hd : decide ((3000 : Int) < n0) = true := by simpa using hlt
      go_wp2
      go_meet
      case rel => exact ⟨by congr 1; omega, rfl⟩
    · have hd : decide ((3000 : Int) < n0) = false := by simpa using hlt
      go_wp2
      go_meet
      case rel => exact ⟨by congr 1; omega, rfl⟩
  case rest =>
    obtain ⟨rfl, rfl⟩ := hcut
    obtain ⟨n, hn⟩ : ∃ n, n = min n0 3000 := ⟨_, rfl⟩
    rw [← hn]
    obtain ⟨l, hl⟩ : ∃ l, l = bs.take 3000 := ⟨_, rfl⟩
    have hll : l.length = n := by rw [hl, List.length_take, hn, HN0.out]; omega
    have hnb : n ≤ 3000 := by omega
    have hnc : n ≤ c0 := by omega
    have hsl : Src w A0 (bv l) := by rw [hl, bv_take]; exact hs0.take 3000
    obtain ⟨col0, hI0⟩ : ∃ col, Inv4 w.heap.size col wc gx gy M [] [] (.slice none 0 0) [] (.slice none 0 0) [] := by
      refine ⟨fun k => if k < w2.heap.size then 1 else 2, ?_, ?_, Row.nil _ _ _, Row.nil _ _ _⟩
      · refine (h2.feed.fr hf3 (fun _ _ h => h)).mono fun k hk => ⟨h2.base k hk, by have := h2.lies k hk; have := hf3.size; omega, ?_⟩
        show (if k < w2.heap.size then 1 else 2) = 1
        rw [if_pos (h2.lies k hk)]
      · refine h3.feed.mono fun k hk => ⟨h3.base k hk, h3.lies k hk, ?_⟩
        show (if k < w2.heap.size then 1 else 2) = 2
        rw [if_neg (by have := hx3 k hk; omega)]
    have HLL := hid hll
    have HL := hid hl
    have HN := hid hn
    have HI0 := hid hI0
    have HL3 := hid L3
    have HSL := hid hsl
    clear hll hl hn hs0 h2 h3 hx2 hx3 hf2 hf3 L1 L2 L3 hI0 hsl
    obtain ⟨wo, hwo⟩ : ∃ wo : World, wo = wc := ⟨_, rfl⟩
    rw [← hwo] at HI0 HL3 ⊢
    clear hwo
    have BO := HL3.out.size
    have S0 := HSL.out.below HL3.out
    go_upto_block 0 with (first
      | (go_at_call 8; refine (add_st _ _ (ys := l) HI0.out.stx BO S0 HLL.out.symm (by rw [HLL.out]; simp; omega)).mono ?_; rintro e w4 ⟨rfl, S4, h4, u4⟩; rw [List.nil_append] at h4; have I4 := HI0.out.step_x BO h4 u4; have L4 := HL3.out.trans (u4.below (fun k hk => hk.1) BO); clear h4 u4))
    have I6 : ∃ col, Inv4 w.heap.size col ((w4.alloc (.cells #[] 3)).alloc (.cells #[] 9)) gx gy M l [] (.slice (some ⟨w4.heap.size, 0, none⟩) 0 0) [] (.slice (some ⟨w4.heap.size + 1, 0, none⟩) 0 0) [] := by
      have z4 := L4.size
      have h5 := I4.step_k (w' := w4.alloc (.cells #[] 3)) (vk' := .slice (some ⟨w4.heap.size, 0, none⟩) 0 0) (ks' := []) z4
        ⟨⟨by simp [iv], .inr ⟨w4.heap.size, 0, #[], rfl, Nat.zero_le _, heap_alloc_new w4 _, Nat.le_refl _, by simp [maxLen], by simp, by simp [iv]⟩⟩, fun k hk => by simp [Value.ownBlock] at hk; subst hk; exact .inr ⟨rfl, by simp⟩⟩ (Fr.alloc _ _ _)
      have h6 := h5.step_t (w' := (w4.alloc (.cells #[] 3)).alloc (.cells #[] 9)) (vt' := .slice (some ⟨w4.heap.size + 1, 0, none⟩) 0 0) (ts' := []) (by simp; omega)
        ⟨⟨by simp [sv], .inr ⟨w4.heap.size + 1, 0, #[], rfl, Nat.zero_le _, by have := heap_alloc_new (w4.alloc (.cells #[] 3)) (.cells #[] 9); simpa using this, Nat.le_refl _, by simp [maxLen], by simp, by simp [sv]⟩⟩, fun k hk => by simp [Value.ownBlock] at hk; subst hk; exact .inr ⟨by simp, by simp⟩⟩ (Fr.alloc _ _ _)
      exact ⟨_, h6⟩
    have L6 : Below w.heap.size w ((w4.alloc (.cells #[] 3)).alloc (.cells #[] 9)) := (L4.alloc L4.size _).alloc (by have := L4.size; simp; omega) _
    obtain ⟨w6, hw6⟩ : ∃ w6 : World, w6 = ((w4.alloc (.cells #[] 3)).alloc (.cells #[] 9)) := ⟨_, rfl⟩
    have I6' := hid I6
    have L6' := hid L6
    clear I6 L6 I4 L4 S0 BO
    rw [← hw6] at I6' L6' ⊢
    clear hw6
    go_cut [11, 12] (fun v11 v12 wx => ∃ (o : List (Int × List UInt8)) (m : List UInt8) (col : Nat → Nat) (Ak At : Option Addr) (ck ct : Nat), v11 = .slice Ak o.length ck ∧ v12 = .slice At o.length ct ∧ Inv4 w.heap.size col wx gx gy M l m (.slice Ak o.length ck) (ksOf o) (.slice At o.length ct) (tsOf o) ∧ Pure.Part M l o m ∧ Pure.split m = none ∧ Below w.heap.size w wx)
    case first =>
      go_wp2_with fail
      go_loopw [10, 11, 12, 13] (fun v10 v11 v12 v13 wr => ∃ (at_ i : Nat) (o : List (Int × List UInt8)) (m : List UInt8) (col : Nat → Nat) (Ak At : Option Addr) (ck ct : Nat), at_ ≤ n ∧ v10 = .int .i64 at_ ∧ (at_ < n → i ≤ 100) ∧ i ≤ 200 ∧ v13 = .int .i64 i ∧ v11 = .slice Ak o.length ck ∧ v12 = .slice At o.length ct ∧
          Inv4 w.heap.size col wr gx gy M l m (.slice Ak o.length ck) (ksOf o) (.slice At o.length ct) (tsOf o) ∧ Pure.Part M (l.take at_) o m ∧ Pure.split m = none ∧ Below w.heap.size w wr) (fun _ _ _ v13 _ => 300 - (intOf v13).toNat)
      case atStart =>
        obtain ⟨col, hI⟩ := I6'.out
        exact ⟨0, 0, [], [], col, some ⟨w4.heap.size, 0, none⟩, some ⟨w4.heap.size + 1, 0, none⟩, 0, 0, Nat.zero_le _, rfl, fun _ => by omega, by omega, rfl, rfl, rfl, hI, .none, rfl, L6'.out⟩
      case round =>
        obtain ⟨at_, i, o, m, col, Ak, At, ck, ct, ha, rfl, hi, hi2, rfl, rfl, rfl, hI, hP, hS, hbel⟩ := hrel
        have HP := hid hP
        have HS := hid hS
        have HI := hid hI
        clear hP hS hI
        by_cases hat : at_ < n
        · have d1 : decide ((at_ : Int) < n) = true := decide_eq_true (by omega)
          have hi3 := hi hat
          have MM := hbel.cell (p := ⟨0, 0, none⟩) hg0
          rw [hm] at MM
          obtain ⟨wp, hwp⟩ : ∃ wp : World, wp = wr := ⟨_, rfl⟩
          rw [← hwp] at HI hbel MM ⊢
          clear hwp
          go_upto_region 16 with fail
          go_cut [62] (fun v62 wx => v62 = .bool (decide (i < n1 ∧ i < 100)) ∧ wx = wp)
          case first =>
            by_cases h1 : i < n1
            · have e1 : decide ((i : Int) < n1) = true := decide_eq_true (by omega)
              by_cases h2 : i < 100
              · have e2 : decide ((i : Int) < 100) = true := decide_eq_true (by omega)
                go_wp2
                go_meet
                case rel => exact ⟨by simp [h1, h2], rfl⟩
              · have e2 : decide ((i : Int) < 100) = false := decide_eq_false (by omega)
                go_wp2
                go_meet
                case rel => exact ⟨by simp [h1, h2], rfl⟩
            · have e1 : decide ((i : Int) < n1) = false := decide_eq_false (by omega)
              go_wp2
              go_meet
              case rel => exact ⟨by simp [h1], rfl⟩
          case rest =>
            obtain ⟨rfl, rfl⟩ := hcut
            obtain ⟨wp, hwp⟩ : ∃ wp : World, wp = wc := ⟨_, rfl⟩
            rw [← hwp] at HI hbel MM ⊢
            clear hwp
            go_upto_if 62 with fail
            go_cut [14] (fun v14 wx => ∃ q : Nat, v14 = .int .i64 q ∧ q ≤ 9000000000000000000 ∧ (100 ≤ i → n ≤ q) ∧ wx = wp)
            case first =>
              by_cases h12 : i < n1 ∧ i < 100
              · have hd : decide (i < n1 ∧ i < 100) = true := decide_eq_true h12
                cases A1 with
                | none =>
                  have h0 : zs = [] := by simpa [iv] using hs1.1 rfl
                  have := HN1.out
                  rw [h0] at this
                  simp at this
                  omega
                | some p1 =>
                  obtain ⟨z, hz0, hzb⟩ : ∃ z, w.cell? (p1.add i) = some (.int .i64 z) ∧ -9223372036854775808 ≤ z ∧ z ≤ 9223372036854775807 := by
                    have hi : i < zs.length := by have := HN1.out; omega
                    exact ⟨zs[i], hs1.2 p1 rfl i _ (by simp [iv, hi]), hz _ (List.getElem_mem hi)⟩
                  have hadd : (p1.add i).block = p1.block := by unfold Addr.add; split <;> rfl
                  have hzr : wp.cell? (p1.add i) = some (.int .i64 z) := (hbel.cell (World.block_lt_of_cell? w _ hz0)).trans hz0
                  have hin : i < n1 := h12.1
                  have H12 := hid h12
                  clear hadd hz0 h12
                  go_wp2_with (go_at_call 9; refine (kind_any z 9 _ hzb.1 hzb.2 (by omega) (by omega)).mono ?_; rintro e w8 ⟨⟨k, hk, rfl⟩, rfl⟩)
                  go_meet
                  case rel => exact ⟨k, rfl, by omega, fun h => by have := H12.out.2; omega, rfl⟩
              · have hd : decide (i < n1 ∧ i < 100) = false := decide_eq_false h12
                have H12 := hid h12
                clear h12
                go_wp2
                go_meet
                case rel => exact ⟨n, rfl, by omega, fun _ => Nat.le_refl _, rfl⟩
            case rest =>
              obtain ⟨q, rfl, hq1, hq2, rfl⟩ := hcut
              obtain ⟨wp, hwp⟩ : ∃ wp : World, wp = wc := ⟨_, rfl⟩
              rw [← hwp] at HI hbel MM ⊢
              clear hwp
              obtain ⟨m2, hmin⟩ : ∃ m2 : Nat, min (q : Int) (n - at_) = m2 := ⟨(min (q : Int) (n - at_)).toNat, by omega⟩
              have hma : at_ + m2 ≤ n := by omega
              have hmb : at_ + m2 < n → i < 100 := by omega
              obtain ⟨b', hb'⟩ : ∃ b', b' = l.take (at_ + m2) := ⟨_, rfl⟩
              have hP2 : Pure.Part M b' o (m ++ (l.drop at_).take m2) := by
                have := HP.out.append ((l.drop at_).take m2)
                rw [hb', List.take_add]
                exact this
              have hpl := hP2.len
              have hbl : b'.length ≤ n := by rw [hb', List.length_take]; omega
              have hml : (m ++ (l.drop at_).take m2).length ≤ 3000 := by omega
              obtain ⟨yb0, hyb⟩ : ∃ y, y = m ++ (l.drop at_).take m2 := ⟨_, rfl⟩
              have hsr : Src wp (Option.map (fun x => x.add at_) A0) (bv (l.drop at_)) := by rw [bv_drop]; exact (HSL.out.below hbel).drop at_
              have HSR := hid hsr
              have HYB := hid hyb
              have HP2 := hid hP2
              have HPL := hid hpl
              have HBL := hid hbl
              have HML := hid hml
              have HBP := hid hb'
              have HBE := hid hbel
              have ZB := hbel.size
              have HMI := hid hmin
              clear hsr hyb hP2 hpl hbl hml hb' hbel hmb
              go_upto_block 2 with (first
                | (go_at_call 8; refine (add_st _ _ (ys := (l.drop at_).take m2) HI.out.sty ZB (by rw [bv_take]; exact HSR.out.take m2) (by rw [List.length_take, List.length_drop, HLL.out]; omega) (by have := HML.out; rw [List.length_append] at this; omega)).mono ?_; rintro e w5 ⟨rfl, S5, h5, u5⟩; rw [← HYB.out] at h5; have I5 := hid (HI.out.step_y ZB h5 u5); have L5 := hid (HBE.out.trans (u5.below (fun k hk => hk.1) ZB)); have M5 := u5.cell MM (fun k hk => hk.1) hg0; clear h5 u5)
                | (go_at_call 10; refine (next_any_new (B := w.heap.size) mm I5.out.sty L5.out.size (by have := HML.out; rw [← HYB.out] at this; omega) M5).mono ?_; rintro e w6 ⟨A6, c6, S6, rfl, s6, n6, h6, u6⟩; have I6 := hid (I5.out.step_y L5.out.size h6 u6); have L6 := hid (L5.out.trans (u6.below (fun k hk => hk.1) L5.out.size)); have M6 := u6.cell M5 (fun k hk => hk.1) hg0; have N6 : ∀ p, A6 = some p → nextT M yb0 ≠ [] → Col w.heap.size (upd (upd col wp 2) w5 2) w6 2 p.block := fun p hp ho => col_new L5.out.size (n6 p hp ho).1 (n6 p hp ho).2; have HN6 := hid N6; have HS6 := hid s6; clear h6 u6 n6 N6 s6 M5))
              go_wp2_with fail
              go_loopg [11, 12, 15, 16] ((nextR yb0).length + (if nextK M yb0 = 0 then 0 else 1)) (fun gk v11 v12 v15 v16 wr => ∃ (o : List (Int × List UInt8)) (yb : List UInt8) (k : Int) (out : List UInt8) (A : Option Addr) (c : Nat) (col : Nat → Nat) (Ak At : Option Addr) (ck ct : Nat), v11 = .slice Ak o.length ck ∧ v12 = .slice At o.length ct ∧ v15 = .int .i64 k ∧ v16 = .slice A out.length c ∧
                Inv4 w.heap.size col wr gx gy M l yb (.slice Ak o.length ck) (ksOf o) (.slice At o.length ct) (tsOf o) ∧ Below w.heap.size w wr ∧ Src wr A (bv out) ∧ (∀ p, A = some p → out ≠ [] → Col w.heap.size col wr 2 p.block) ∧ Taken M b' o yb k out ∧ 0 ≤ k ∧ k ≤ 2 ∧ gk = yb.length + (if k = 0 then 0 else 1))
              case atStart => exact ⟨o, nextR yb0, nextK M yb0, nextT M yb0, A6, c6, _, Ak, At, ck, ct, rfl, rfl, rfl, rfl, I6.out, L6.out, HS6.out, HN6.out, taken_next (HYB.out ▸ HP2.out), (nextK_rng M yb0).1, (nextK_rng M yb0).2, rfl⟩
              case round =>
                obtain ⟨o2, yb, k, out, A, c, col2, Ak2, At2, ck2, ct2, rfl, rfl, rfl, rfl, hI2, hb2, hs2, hc2, hT2, hk0, hk2, hgk⟩ := hrel
                have HI2 := hid hI2
                have HB2 := hid hb2
                have HS2 := hid hs2
                have HC2 := hid hc2
                have HT2 := hid hT2
                have HGK := hid hgk
                have MR := hb2.cell (p := ⟨0, 0, none⟩) hg0
                rw [hm] at MR
                have ZR := hb2.size
                clear hI2 hb2 hs2 hc2 hT2 hgk I5 I6 L5 L6 M6 HN6 HS6
                by_cases hk : 0 < k
                · have d2 : decide (0 < k) = true := decide_eq_true hk
                  have hol : o2.length ≤ 3000 := by have := HT2.out.len; have := HBL.out; omega
                  have T1 := HI2.out.tmp (Fr.alloc (fun _ => False) wr (.cells #[.int .i64 k] 3))
                  have K1 := src_keep (c := 0) HS2.out HC2.out (Fr.alloc (fun _ => False) wr (.cells #[.int .i64 k] 3)) (fun _ h => h.elim) (by decide)
                  have R1 := T1.k
                  have TT1 := hid T1
                  have KK1 := hid K1
                  have LK := hid (iv_ks_len o2)
                  have LT := hid (sv_ts_len o2)
                  have lit1 : Src (wr.alloc (.cells #[.int .i64 k] 3)) (some ⟨wr.heap.size, 0, none⟩) (iv [k]) := src_lit wr #[.int .i64 k] 3 (0, 0)
                  have Z1 : w.heap.size ≤ (wr.alloc (.cells #[.int .i64 k] 3)).heap.size := by simp; omega
                  clear T1 K1
                  go_wp2_with (first
                    | (at_builtin; refine wpList_append_row _ rfl (.tmp 97) (.tmp 99) 23 3 rfl (.int .i64 0) 8 Try.underlying23 info_int rfl (.slice Ak2 o2.length ck2) (iv (ksOf o2)) (iv [k]) rfl R1 (some ⟨wr.heap.size, 0, none⟩) 1 1 rfl rfl lit1 (iv_one _) (by rw [LK.out]; show o2.length + 1 ≤ 70368744177664; omega) (by rw [LK.out]; show (o2.length + 1) * 8 ≤ 140737488355328; omega) ?_; intro v7 w7 hr7 hf7; rw [iv_ks o2 k out] at hr7; have I7 := TT1.out.step_k Z1 hr7 hf7; have K7 := src_keep (c := 3) KK1.out.1 KK1.out.2 hf7 (fun k hk => .inl (R1.2 k hk)) (by decide); obtain ⟨A7, c7, rfl⟩ := row_slice_len hr7 (o2.length + 1) (by rw [iv_ks_len]; simp); have Z7 := Nat.le_trans Z1 hf7.size; have fr7 := (Fr.alloc (fun _ => False) wr (.cells #[.int .i64 k] 3)); have L7 : Below w.heap.size w w7 := (HB2.out.trans (fr7.below (fun _ h => h.elim) ZR)).trans (hf7.below (fun k hk => (R1.2 k hk).1) Z1); have cv7 := conv_src K7.1 out.length c rfl; clear hr7 hf7 R1 lit1 fr7;
                        have T2 := I7.tmp (Fr.alloc (fun _ => False) w7 (.cells #[.string ⟨out.toArray⟩] 9)); have R2 := T2.t; have TT2 := hid T2; clear I7 T2 K7; have lit2 : Src (w7.alloc (.cells #[.string ⟨out.toArray⟩] 9)) (some ⟨w7.heap.size, 0, none⟩) (sv [⟨out.toArray⟩]) := src_lit w7 #[.string ⟨out.toArray⟩] 9 (0, 0); have Z2 : w.heap.size ≤ (w7.alloc (.cells #[.string ⟨out.toArray⟩] 9)).heap.size := by simp; omega)
                    | (at_builtin; refine wpList_append_row _ rfl (.tmp 101) (.tmp 104) 28 9 rfl (.string ⟨#[]⟩) 16 Try.underlying28 info_str rfl (.slice At2 o2.length ct2) (sv (tsOf o2)) (sv [⟨out.toArray⟩]) rfl R2 (some ⟨w7.heap.size, 0, none⟩) 1 1 rfl rfl lit2 (sv_one _) (by rw [LT.out]; show o2.length + 1 ≤ 70368744177664; omega) (by rw [LT.out]; show (o2.length + 1) * 16 ≤ 140737488355328; omega) ?_; intro v8 w8 hr8 hf8; rw [sv_ts o2 k out] at hr8; have I8 := hid (TT2.out.step_t Z2 hr8 hf8); obtain ⟨A8, c8, rfl⟩ := row_slice_len hr8 (o2.length + 1) (by rw [sv_ts_len]; simp); have fr8 := (Fr.alloc (fun _ => False) w7 (.cells #[.string ⟨out.toArray⟩] 9)); have L8 : Below w.heap.size w w8 := (L7.trans (fr8.below (fun _ h => h.elim) Z7)).trans (hf8.below (fun k hk => (R2.2 k hk).1) Z2); have M8 : w8.cell? ⟨0, 0, none⟩ = some (.int .i64 mm) := (L8.cell hg0).trans hm; clear hr8 hf8 R2 lit2 fr8 cv7)
                    | (go_at_call 10; refine (next_any_new (B := w.heap.size) mm I8.out.sty L8.size (by have := HT2.out.len; have := HBL.out; omega) M8).mono ?_; rintro e w9 ⟨A9, c9, S9, rfl, s9, n9, h9, u9⟩; have I9 := hid (next_step_y I8.out L8.size n9 h9 u9); have L9 := hid (L8.trans (u9.below (fun k hk => hk.1) L8.size)); have HS9 := hid s9; clear h9 u9 n9 s9 M8))
                  go_roundg ((nextR yb).length + (if nextK M yb = 0 then 0 else 1))
                  case measure => have := HGK.out; have := nextR_len yb M; rw [if_neg (show ¬ k = 0 by omega)] at *; omega
                  case rel => exact ⟨o2 ++ [(k, out)], nextR yb, nextK M yb, nextT M yb, A9, c9, _, A7, A8, c7, c8, by simp, by simp, rfl, rfl, by simpa using I9.out.1, L9.out, HS9.out, I9.out.2, taken_next (HT2.out.more hk), (nextK_rng M yb).1, (nextK_rng M yb).2, rfl⟩
                · have d2 : decide (0 < k) = false := decide_eq_false hk
                  go_wp2
                  go_roundw
                  case rel => exact ⟨at_ + m2, i + 1, o2, yb, col2, Ak2, At2, ck2, ct2, hma, by have := HMI.out; go_num, by have := HMI.out; omega, by omega, by go_num, rfl, rfl, HI2.out, by have := (HT2.out.done hk).1; rwa [HBP.out] at this, (HT2.out.done hk).2, HB2.out⟩
                  case measure => simp [intOf]; omega
        · have d1 : decide ((at_ : Int) < n) = false := decide_eq_false (by omega)
          go_wp2
          go_meet
          case rel => exact ⟨o, m, col, Ak, At, ck, ct, rfl, rfl, HI.out, by have := HP.out; rwa [List.take_of_length_le (by have := HLL.out; omega)] at this, HS.out, hbel⟩
    case rest =>
      obtain ⟨o, m, col, Ak, At, ck, ct, rfl, rfl, hI, hP, hS, hbel⟩ := hcut
      have HP := hid hP
      have HS := hid hS
      have HI := hid hI
      have hol : o.length ≤ 3000 := by have := hP.len; have := HLL.out; omega
      have hml : m.length ≤ 3000 := by have := hP.len; have := HLL.out; omega
      obtain ⟨wo, hwo⟩ : ∃ wo : World, wo = wc := ⟨_, rfl⟩
      rw [← hwo] at HI hbel ⊢
      clear hwo hI hP hS hs1 hz I6' L6' HI0 HL3 HSL
      have HBE := hid hbel
      clear hbel
      go_wp2_with fail
      go_loopw [17] (fun v17 wr => ∃ (i : Nat) (mi : List UInt8) (col : Nat → Nat), i ≤ o.length ∧ v17 = .int .i64 i ∧ Inv4 w.heap.size col wr gx gy M mi m (.slice Ak o.length ck) (ksOf o) (.slice At o.length ct) (tsOf o) ∧ Pure.Part M l (o.take i) mi ∧ Below w.heap.size w wr) (fun v17 _ => o.length - (intOf v17).toNat)
      case atStart => exact ⟨0, l, col, Nat.zero_le _, rfl, HI.out, .none, HBE.out⟩
      case round =>
        obtain ⟨i, mi, col2, hi, rfl, hI2, hP2, hb2⟩ := hrel
        have MM : wr.cell? ⟨0, 0, none⟩ = some (.int .i64 mm) := (hb2.cell hg0).trans hm
        have ZR := hb2.size
        have hmi : mi.length ≤ 3000 := by have := hP2.len; have := HLL.out; omega
        have HI2 := hid hI2
        have HP2 := hid hP2
        have HB2 := hid hb2
        clear hI2 hP2 hb2
        by_cases hil : i < o.length
        · have d1 : decide ((i : Int) < o.length) = true := decide_eq_true (by omega)
          obtain ⟨mi2, a, r, hq1, hq2, hq3⟩ := HP.out.at_ i hil
          obtain rfl := HP2.out.det hq1
          have hP3 : Pure.Part M l (o.take (i + 1)) r := by
            have : o.take (i + 1) = o.take i ++ [(Pure.kindOf M a, Pure.textOf M a)] := by rw [List.take_add_one, hq3]; rfl
            rw [this]
            exact .snoc hq1 hq2
          obtain ⟨kk, hkk⟩ : ∃ kk, kk = Pure.kindOf M a := ⟨_, rfl⟩
          obtain ⟨tt, htt⟩ : ∃ tt, tt = Pure.textOf M a := ⟨_, rfl⟩
          rw [← hkk, ← htt] at hq3
          have HP3 := hid hP3
          have HQ2 := hid hq2
          have HQ3 := hid hq3
          have HKK := hid hkk
          have HTT := hid htt
          obtain ⟨pk, pt, rfl, rfl, hx1, hx2⟩ := rows_at HI2.out HQ3.out
          clear hP3 hq2 hq3 hq1 hkk htt hx1 hx2
          have fin : ∀ q : Nat, ∀ (w5 : World) (A5 : Option Addr) (c5 : Nat), Src w5 A5 (bv tt) → (convert 22 9 (.slice A5 tt.length c5)).run Try.prog (w5.drewN q) = .ok (.string ⟨tt.toArray⟩) (w5.drewN q) :=
            fun q w5 A5 c5 h => conv_src (h.fr (Fr.drewN (fun _ => False) w5 q) (fun _ _ h => h)) tt.length c5 rfl
          have FIN := hid fin
          clear fin
          go_upto_region 30 with (go_at_call 10; refine (next_some_new (B := w.heap.size) mm HI2.out.stx ZR HQ2.out (by omega) MM).mono ?_; rintro e w5 ⟨A5, c5, S5, he, s5, n5, h5, u5⟩; rw [← HKK.out, ← HTT.out] at he; rw [← HTT.out] at s5; subst he; have I5 := hid (next_step_x HI2.out ZR h5 u5); have L5 := hid (HB2.out.trans (u5.below (fun k hk => hk.1) ZR)); clear h5 u5 n5)
          obtain ⟨col3, I6⟩ := I5.out
          obtain ⟨pk2, pt2, e1, e2, hx1, hx2⟩ := rows_at I6 HQ3.out
          simp at e1 e2
          subst e1 e2
          have I7 := hid I6
          have cv := fun q => FIN.out q w5 A5 c5 s5
          have cv0 := cv 0
          clear I6 s5
          have e3 : (kk != kk) = false := by simp
          go_quiet (fail)
          go_wp2
          go_roundw
          case rel => exact ⟨i + 1, r, _, by omega, by go_num, I7.out.tmp (Fr.drewN (fun _ => False) w5 _), HP3.out, L5.out.trans ((Fr.drewN (fun _ => False) w5 _).below (fun _ h => h.elim) L5.out.size)⟩
          case measure => simp [intOf]; omega
        · have d1 : decide ((i : Int) < o.length) = false := decide_eq_false (by omega)
          have hmm : mi = m := HP2.out.det (by have : i = o.length := by omega
                                               rw [this, List.take_length]; exact HP.out)
          have hsm : Pure.split mi = none := by rw [hmm]; exact HS.out
          have HSM := hid hsm
          have HMM := hid hmm
          clear hsm hmm
          go_wp2_with (first
            | (go_at_call 10; refine (next_none_new (B := w.heap.size) mm HI2.out.stx ZR HSM.out (by omega) MM).mono ?_; rintro e w5 ⟨A5, c5, S5, he, s5, n5, h5, u5⟩; replace he : e = .returned (.tuple #[.int .i64 0, .slice A5 0 c5]) := he; subst he; have I5 := hid (next_step_x HI2.out ZR h5 u5); have L5 := hid (HB2.out.trans (u5.below (fun k hk => hk.1) ZR)); clear h5 u5 n5 s5; obtain ⟨col5, J5⟩ := I5.out; have tok7 : Tok 7 := ⟨⟩; have J6 := hid J5; clear J5)
            | (go_at_call 11; have t_ : Tok 7 := ‹Tok 7›; refine (waiting_st (B := w.heap.size) J6.out.stx).mono ?_; rintro e w6 ⟨rfl, rfl⟩; clear t_ tok7; have tok8 : Tok 8 := ⟨⟩)
            | (go_at_call 11; have t_ : Tok 8 := ‹Tok 8›; refine (waiting_st (B := w.heap.size) J6.out.sty).mono ?_; rintro e w7 ⟨rfl, rfl⟩; rw [HMM.out]))
          go_ret
          exact ⟨rfl, L5.out⟩

end Go.Proofs.Ytboijleajaiiiaa
