/-
  CodecQuotes walked.
-/
import Derived.Test.YtnphpinnkmndfaaDoorNumbers
import Derived.Test.YtnphpinnkmndfaaDoorRStuff
namespace Go.Proofs.YtnphpinnkmndfaaDoor
open Go.RowKit Own Dec
set_option linter.unusedVariables false
set_option linter.unusedSimpArgs false
set_option maxRecDepth 100000

attribute [local go_sem] str_toList str_size

theorem str_get {l : List UInt8} {i : Nat} {c : UInt8} (h : l[i]? = some c) : ∀ hh, (str l)[i]'hh = c := by
  intro hh
  obtain ⟨h1, h2⟩ := List.getElem?_eq_some_iff.1 h
  exact h2
theorem str_cut (l : List UInt8) (i j : Nat) : (str l).extract i j = str ((l.take j).drop i) := by
  apply ByteArray.ext
  apply Array.ext'
  simp [str, ByteArray.data_extract, Array.toList_extract, List.extract_eq_take_drop, List.drop_take]
theorem esc_cons (c : UInt8) (l : List UInt8) : esc (c :: l) = (if escB c = true then [92, c] else [c]) ++ esc l := by simp [esc]

set_option maxHeartbeats 4000000 in
theorem quotes_far (l : List UInt8) (w : World) (hG : GoodC w) (hl : l.length ≤ 1048576) (hp : allPlain l = false) :
    Calls Tryd.prog 8 #[.string (str l)] w fun e w' => e = .returned (.bool true) ∧ Below w.heap.size w w' := by
  have hq := fun W g => quote_any l W g (by omega)
  obtain ⟨D, hD⟩ : ∃ D, D = Text.digs l.length := ⟨_, rfl⟩
  have hQ : quoteL l = 123 :: (D ++ [125, 13, 10] ++ l) := by unfold quoteL; rw [hp, if_neg (by decide), hD]; simp
  have hD10 : D.length ≤ 10 := by rw [hD]; exact digs_len10 (by omega)
  have hnum := fun W g => number_any D l.length W g
  rw [hD, numR_self (by omega), if_neg (by omega), ← hD] at hnum
  have hdd : ∀ c ∈ D, isDig c := by rw [hD]; exact digs_dig _
  rw [hQ] at hq
  obtain ⟨Q, hQd⟩ : ∃ Q, Q = 123 :: (D ++ [125, 13, 10] ++ l) := ⟨_, rfl⟩
  rw [← hQd] at hq
  obtain ⟨N, hN⟩ : ∃ N, N = 1 + D.length := ⟨_, rfl⟩
  have hQl : Q.length = N + 3 + l.length := by rw [hQd, hN]; simp; omega
  have hx0 := str_get (l := Q) (i := 0) (c := 123) (by rw [hQd]; rfl)
  have hxk : ∀ j, j + 1 < N → ∃ c, isDig c ∧ ∀ hh, (str Q)[j + 1]'hh = c := fun j h2 => by
    have hj : j < D.length := by omega
    refine ⟨D[j], hdd _ (List.getElem_mem hj), str_get ?_⟩
    rw [hQd, List.getElem?_cons_succ, List.append_assoc, List.getElem?_append_left hj]
    exact List.getElem?_eq_getElem hj
  have hxN := str_get (l := Q) (i := N) (c := 125) (by
    rw [hQd, show N = D.length + 1 by omega, List.getElem?_cons_succ, List.append_assoc, List.getElem?_append_right (by omega)]
    simp)
  have hc1 : (str Q).extract 1 N = str D := by
    rw [str_cut, hQd]
    congr 1
    rw [show N = D.length + 1 by omega, List.take_succ_cons, List.drop_succ_cons, List.drop_zero, List.append_assoc, List.take_left]
  have hc2 : (str Q).extract N (N + 3) = str [125, 13, 10] := by
    rw [str_cut, hQd]
    congr 1
    rw [show 123 :: (D ++ [125, 13, 10] ++ l) = ((123 :: D) ++ [125, 13, 10]) ++ l by simp, show N + 3 = ((123 :: D) ++ [125, 13, 10]).length by simp; omega, List.take_left, show N = (123 :: D).length by simp; omega, List.drop_left]
  have hc3 : (str Q).extract (N + 3) (N + 3 + l.length) = str l := by
    rw [← hQl, str_cut, List.take_length, hQd]
    congr 1
    rw [show 123 :: (D ++ [125, 13, 10] ++ l) = ((123 :: D) ++ [125, 13, 10]) ++ l by simp, show N + 3 = ((123 :: D) ++ [125, 13, 10]).length by simp; omega, List.drop_left]
  have hN11 : N ≤ 11 := by omega
  have hN1 : 1 ≤ N := by omega
  have HQL := hid hQl
  have hQs : (str Q).size = N + 3 + l.length := by rw [str_size, hQl]
  clear hQ hD hdd hQd hN hD10 hQl hp
  go_enter Tryd.func8, Tryd.ntmps8
  go_wp2_with (first
    | (go_at_call 10; refine (shown_any w hG).mono ?_; rintro e w1 ⟨rfl, c1⟩; have b1 := hid c1; clear c1)
    | (go_at_call 21; refine (hq _ (hG.below b1.out)).mono ?_; rintro e w2 ⟨rfl, c2⟩; have b2 := hid (below_then b1.out c2); clear c2))
  go_loop [5] (fun v5 => ∃ k : Nat, 1 ≤ k ∧ k ≤ N ∧ v5 = .int .i64 k) (fun v5 => N - (intOf v5).toNat)
  case atStart => exact ⟨1, Nat.le_refl _, hN1, rfl⟩
  case round =>
    obtain ⟨k, hk1, hkN, rfl⟩ := hrel
    by_cases hlt : k < N
    · obtain ⟨j, rfl⟩ : ∃ j, k = j + 1 := ⟨k - 1, by omega⟩
      obtain ⟨c, hc, hx⟩ := hxk j hlt
      unfold isDig at hc
      obtain ⟨g1, g2⟩ := hc
      obtain ⟨K, hK⟩ : ∃ K, K = j + 1 := ⟨_, rfl⟩
      rw [← hK] at hlt hx hk1 hkN ⊢
      clear hK hxk hc1 hc2 hc3 hnum hxN hx0
      go_wp2
      go_round
      case rel => exact ⟨K + 1, by omega, by omega, by go_num⟩
      case measure => simp [intOf]; omega
    · obtain rfl : k = N := by omega
      have g1 : decide ((57 : Int) < 125) = true := by decide
      clear hxk hx0 hlt hkN hk1
      go_wp2_with ((go_at_call 19; refine (hnum _ (hG.below b2.out)).mono ?_; rintro e w3 ⟨rfl, c3⟩; have b3 := hid (below_then b2.out c3); clear c3))
      go_ret
      exact ⟨rfl, b3.out⟩

set_option maxHeartbeats 4000000 in
theorem quotes_near (l : List UInt8) (w : World) (hG : GoodC w) (hl : l.length ≤ 1048576) (hp : allPlain l = true) :
    Calls Tryd.prog 8 #[.string (str l)] w fun e w' => e = .returned (.bool true) ∧ Below w.heap.size w w' := by
  have hq := fun W g => quote_any l W g (by omega)
  have hQ : quoteL l = 34 :: (esc l ++ [34]) := by unfold quoteL; rw [if_pos hp]; simp
  have hel := esc_len l
  rw [hQ] at hq
  obtain ⟨Q, hQd⟩ : ∃ Q, Q = 34 :: (esc l ++ [34]) := ⟨_, rfl⟩
  rw [← hQd] at hq
  obtain ⟨M, hM⟩ : ∃ M, M = (esc l).length + 1 := ⟨_, rfl⟩
  have hQl : Q.length = M + 1 := by rw [hQd, hM]; simp
  have hx0 := str_get (l := Q) (i := 0) (c := 34) (by rw [hQd]; rfl)
  have hxM := str_get (l := Q) (i := M) (c := 34) (by rw [hQd, hM, List.getElem?_cons_succ]; simp)
  have hM1 : 1 ≤ M := by omega
  have hMb : M ≤ 3000000 := by omega
  have hQs : (str Q).size = M + 1 := by rw [str_size, hQl]
  have hd1 : Q.drop 1 = esc l ++ [34] := by rw [hQd]; rfl
  have HD1 := hid hd1
  have HQL := hid hQl
  clear hQ hQd hM hQl hp hel hd1
  go_enter Tryd.func8, Tryd.ntmps8
  go_wp2_with (first
    | (go_at_call 10; refine (shown_any w hG).mono ?_; rintro e w1 ⟨rfl, c1⟩; have b1 := hid c1; clear c1)
    | (go_at_call 21; refine (hq _ (hG.below b1.out)).mono ?_; rintro e w2 ⟨rfl, c2⟩; have b2 := hid (below_then b1.out c2); have HB5 := hid (Buf.lit w2 [] (by simp)); have L5 := hid ((Below.refl w2.heap.size w2).alloc (Nat.le_refl _) (.cells (bv []).toArray 5 (0, 0))); clear c2))
  go_loopw [8, 9] (fun v8 v9 wr => ∃ (i : Nat) (o t : List UInt8), v9 = .int .i64 i ∧ 1 ≤ i ∧ Q.drop i = esc t ++ [34] ∧ o ++ t = l ∧ Buf w2.heap.size wr v8 o ∧ Below w2.heap.size w2 wr) (fun _ v9 _ => M - (intOf v9).toNat)
  case atStart => exact ⟨1, [], l, rfl, Nat.le_refl _, HD1.out, rfl, HB5.out, L5.out⟩
  case round =>
    obtain ⟨i, o, t, rfl, hi1, hdr, hot, hbuf, hbel⟩ := hrel
    have hlen := congrArg List.length hdr
    rw [List.length_drop, HQL.out, List.length_append, List.length_singleton] at hlen
    have hat : ∀ j, Q[i + j]? = (esc t ++ [34])[j]? := fun j => by rw [← hdr, List.getElem?_drop]
    have hol := congrArg List.length hot
    rw [List.length_append] at hol
    have HBUF := hid hbuf
    have HBE := hid hbel
    have HOT := hid hot
    have HDR := hid hdr
    cases t with
    | nil =>
      have hiM : i = M := by
        have : (esc []).length = 0 := rfl
        omega
      rw [List.append_nil] at hot
      subst hiM
      subst hot
      obtain ⟨A5, k5, rfl, -, -⟩ := HBUF.out.full
      have cvo := HBUF.out.conv
      have e3 : ((34 : Int) == 34) = true := rfl
      clear hlen hat hol hbuf hbel hdr HDR HOT
      go_wp2
      go_ret
      exact ⟨rfl, below_then b2.out HBE.out⟩
    | cons c t =>
      rw [esc_cons] at hlen hat hdr
      rw [List.length_append] at hlen
      simp only [List.length_cons] at hol
      have hot2 : (o ++ [c]) ++ t = l := by rw [List.append_assoc]; exact hot
      have HOT2 := hid hot2
      cases he : escB c with
      | true =>
        rw [he] at hlen hat hdr
        have hc0 := str_get (l := Q) (i := i) (c := 92) (by have := hat 0; simpa using this)
        have hc1 := str_get (l := Q) (i := i + 1) (c := c) (by have := hat 1; simpa using this)
        have hd2 : Q.drop (i + 2) = esc t ++ [34] := by rw [← List.drop_drop, hdr]; rfl
        have HD2 := hid hd2
        have hiM : i + 1 < M := by simp at hlen; omega
        have HOL := hid hol
        have ho2 : o.length ≤ 1048576 := by omega
        clear hlen hat hol hbuf hbel hdr HDR HOT hot hot2 he hd2
        go_wp2_with ((at_builtin; refine wpList_buf w2.heap.size _ rfl _ _ rfl u8 o [c] rfl (HBUF.out.alloc _) _ 1 1 rfl rfl (one_src _ c _ rfl) (by simp; omega) ?_; intro v' w3 hr1 hb1))
        go_roundw
        case rel => exact ⟨i + 2, o ++ [c], t, by go_num, by omega, HD2.out, HOT2.out, hr1, (HBE.out.alloc HBUF.out.2 _).trans hb1⟩
        case measure => simp [intOf]; omega
      | false =>
        rw [he] at hlen hat hdr
        have hc0 := str_get (l := Q) (i := i) (c := c) (by have := hat 0; simpa using this)
        have hne : c ≠ 92 := by rintro rfl; simp [escB] at he
        have e3 : ((c.toNat : Int) == 92) = false := by
          rw [beq_eq_false_iff_ne]; intro h; exact hne (UInt8.toNat_inj.mp (by simpa using (by omega : c.toNat = 92)))
        have hd2 : Q.drop (i + 1) = esc t ++ [34] := by rw [← List.drop_drop, hdr]; rfl
        have HD2 := hid hd2
        have hiM : i < M := by simp at hlen; omega
        have HOL := hid hol
        have ho2 : o.length ≤ 1048576 := by omega
        clear hlen hat hol hbuf hbel hdr HDR HOT hot hot2 he hd2 hne
        go_wp2_with ((at_builtin; refine wpList_buf w2.heap.size _ rfl _ _ rfl u8 o [c] rfl (HBUF.out.alloc _) _ 1 1 rfl rfl (one_src _ c _ rfl) (by simp; omega) ?_; intro v' w3 hr1 hb1))
        go_roundw
        case rel => exact ⟨i + 1, o ++ [c], t, by go_num, by omega, HD2.out, HOT2.out, hr1, (HBE.out.alloc HBUF.out.2 _).trans hb1⟩
        case measure => simp [intOf]; omega

theorem quotes_walk (l : List UInt8) (w : World) (hG : GoodC w) (hl : l.length ≤ 1048576) :
    Calls Tryd.prog 8 #[.string (str l)] w fun e w' => e = .returned (.bool true) ∧ Below w.heap.size w w' := by
  cases hp : allPlain l with
  | true => exact quotes_near l w hG hl hp
  | false => exact quotes_far l w hG hl hp

end Go.Proofs.YtnphpinnkmndfaaDoor
