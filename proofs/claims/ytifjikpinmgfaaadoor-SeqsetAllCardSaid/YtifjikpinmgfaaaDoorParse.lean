/-
  The program's Parse of a set.
-/
import Derived.Test.YtifjikpinmgfaaaDoorRows2
namespace Go.Proofs.YtifjikpinmgfaaaDoor
open Go.RowKit Own Dec Sq
set_option linter.unusedVariables false
set_option linter.unusedSimpArgs false
set_option maxRecDepth 100000

/-- How far a walk is. -/
structure Tk (n : Nat) : Prop

set_option maxHeartbeats 4000000 in
theorem parse_any (l : List UInt8) (w : World) (hG : GoodC w) (hl : l.length ≤ 100000000) :
    Calls Tryd.prog 13 #[.string (str l)] w fun e w' => ∃ v, e = .returned (.tuple #[v, .int .i64 (parseS l).2]) ∧ RBuf w.heap.size w' v (parseS l).1 ∧ Below w.heap.size w w' := by
  have hsp := split_any 44 l w hG (by omega)
  have hple := Spl.splitL_len 44 l
  have hpp := Spl.splitL_parts 44 l
  obtain ⟨R, E, hRE⟩ : ∃ R E, parseS l = (R, E) := ⟨_, _, rfl⟩
  have hre : parseV (partsS (Spl.splitL 44 l)) = (R, E) := hRE
  rw [hRE]
  obtain ⟨ps, hps⟩ : ∃ ps, ps = Spl.splitL 44 l := ⟨_, rfl⟩
  rw [← hps] at hsp hple hpp hre
  have HRE := hid hre
  have HPP := hid hpp
  clear hRE hps hre hpp
  go_enter Tryd.func13, Tryd.ntmps13
  go_wp2_with (go_at_call 21; refine hsp.mono ?_; rintro e w1 ⟨rfl, hs1, c1⟩; have S1 := hid hs1; have b1 := hid c1; clear hs1 c1)
  go_loopw [4, 17] (fun v4 v17 wr => ∃ (i : Nat) (o : List Rg), i ≤ ps.length ∧ v17 = .int .i64 i ∧ (partsS (ps.drop i)).map (fun x => o ++ x) = partsS ps ∧ o.length ≤ i ∧ RBuf w1.heap.size wr v4 o ∧ Below w.heap.size w wr ∧ Below w1.heap.size w1 wr) (fun _ v17 _ => ps.length - (intOf v17).toNat)
  case atStart => exact ⟨0, [], Nat.zero_le _, rfl, by simp, by simp, RBuf.nil (Nat.le_refl _), b1.out, Below.refl _ _⟩
  case round =>
    obtain ⟨i, o, hi, rfl, hpr, hoi, hbuf, hbel, hbel1⟩ := hrel
    have HPR := hid hpr
    have HBUF := hid hbuf
    have HBE := hid hbel
    have HBE1 := hid hbel1
    by_cases hil : i < ps.length
    · obtain ⟨x, hx⟩ : ∃ x, ps[i]? = some x := ⟨_, List.getElem?_eq_getElem hil⟩
      have hcell := srcS_at (S1.out.below hbel1) hx
      rw [Addr.add_lit, Nat.zero_add] at hcell
      have hdr : ps.drop i = x :: ps.drop (i + 1) := by
        obtain ⟨h1, h2⟩ := List.getElem?_eq_some_iff.1 hx
        rw [List.drop_eq_getElem_cons hil, h2]
      have hxl := (HPP.out x (List.mem_of_getElem? hx)).2
      have hcut := fun W g => cut_any 58 x W g (by omega)
      obtain ⟨ca, cb, two, hc⟩ : ∃ ca cb two, Lib.cut x [58] = (ca, cb, two) := ⟨_, _, _, rfl⟩
      rw [hc] at hcut
      obtain ⟨n1, b1', hn1⟩ : ∃ n b, numS ca = (n, b) := ⟨_, _, rfl⟩
      obtain ⟨cb', hcb⟩ : ∃ cb', cb' = if two = true then cb else ca := ⟨_, rfl⟩
      obtain ⟨n2, b2', hn2⟩ : ∃ n b, numS cb' = (n, b) := ⟨_, _, rfl⟩
      have hnum1 := fun W g => numS_any ca W g
      have hnum2 := fun W g => numS_any cb' W g
      rw [hn1] at hnum1
      rw [hn2] at hnum2
      have hp : partS x = if b1' && b2' = true then some (n1, n2) else none := by
        unfold partS
        rw [hc]
        show (if (numS ca).2 && (numS (if two = true then cb else ca)).2 = true then some ((numS ca).1, (numS (if two = true then cb else ca)).1) else none) = _
        rw [← hcb, hn1, hn2]
      have HP := hid hp
      have HDR := hid hdr
      clear hx hdr hxl hc hn1 hn2 hp hbuf hbel hbel1 hpr
      dsimp only at hcut hnum1 hnum2
      cases hb : (b1' && b2') with
      | true =>
        obtain ⟨rfl, rfl⟩ : b1' = true ∧ b2' = true := by simpa using hb
        have hpr := HPR.out
        rw [HDR.out, partsS_some _ (r := (n1, n2)) (by rw [HP.out]; rfl)] at hpr
        have hpr2 : (partsS (ps.drop (i + 1))).map (fun x => (o ++ [(n1, n2)]) ++ x) = partsS ps := by
          rw [← hpr]
          cases partsS (ps.drop (i + 1)) <;> simp
        have HPR2 := hid hpr2
        clear hpr hpr2 hb
        cases two
        · obtain rfl : cb' = ca := hcb
          have tok0 : Tk 0 := ⟨⟩
          go_wp2_with (first
            | (go_at_call 22; refine (hcut _ (hG.below HBE.out)).mono ?_; rintro e w2 ⟨rfl, c2⟩; have b2 := hid (below_then HBE.out c2); have d2 := hid (below_then HBE1.out c2); have H2 := hid (HBUF.out.keep c2); clear c2)
            | (go_at_call 23; have t_ : Tk 0 := ‹Tk 0›; refine (hnum1 _ (hG.below b2.out)).mono ?_; rintro e w3 ⟨rfl, c3⟩; have b3 := hid (below_then b2.out c3); have d3 := hid (below_then d2.out c3); have H3 := hid (H2.out.keep c3); clear c3; clear t_; clear tok0; have tok1 : Tk 1 := ⟨⟩)
            | (go_at_call 23; have t_ : Tk 1 := ‹Tk 1›; refine (hnum2 _ (hG.below b3.out)).mono ?_; rintro e w4 ⟨rfl, c4⟩; have b4 := hid (below_then b3.out c4); have d4 := hid (below_then d3.out c4); have H4 := hid (H3.out.keep c4); clear c4; clear t_; clear tok1; have tok2 : Tk 2 := ⟨⟩)
            | (at_builtin; refine wpList_rbuf w1.heap.size _ rfl _ _ rfl u4 o (n1, n2) rfl (H4.out.alloc _) _ 1 rfl (rlit _ (n1, n2) _ _ _ rfl rfl) (by omega) ?_; intro v' w5 hr5 hb5))
          go_roundw
          case rel => exact ⟨i + 1, o ++ [(n1, n2)], by omega, by go_num, HPR2.out, by simp; omega, hr5, (b4.out.alloc b4.out.size _).trans (hb5.mono b1.out.size), (d4.out.alloc d4.out.size _).trans hb5⟩
          case measure => simp [intOf]; omega
        · obtain rfl : cb' = cb := hcb
          have tok0 : Tk 0 := ⟨⟩
          go_wp2_with (first
            | (go_at_call 22; refine (hcut _ (hG.below HBE.out)).mono ?_; rintro e w2 ⟨rfl, c2⟩; have b2 := hid (below_then HBE.out c2); have d2 := hid (below_then HBE1.out c2); have H2 := hid (HBUF.out.keep c2); clear c2)
            | (go_at_call 23; have t_ : Tk 0 := ‹Tk 0›; refine (hnum1 _ (hG.below b2.out)).mono ?_; rintro e w3 ⟨rfl, c3⟩; have b3 := hid (below_then b2.out c3); have d3 := hid (below_then d2.out c3); have H3 := hid (H2.out.keep c3); clear c3; clear t_; clear tok0; have tok1 : Tk 1 := ⟨⟩)
            | (go_at_call 23; have t_ : Tk 1 := ‹Tk 1›; refine (hnum2 _ (hG.below b3.out)).mono ?_; rintro e w4 ⟨rfl, c4⟩; have b4 := hid (below_then b3.out c4); have d4 := hid (below_then d3.out c4); have H4 := hid (H3.out.keep c4); clear c4; clear t_; clear tok1; have tok2 : Tk 2 := ⟨⟩)
            | (at_builtin; refine wpList_rbuf w1.heap.size _ rfl _ _ rfl u4 o (n1, n2) rfl (H4.out.alloc _) _ 1 rfl (rlit _ (n1, n2) _ _ _ rfl rfl) (by omega) ?_; intro v' w5 hr5 hb5))
          go_roundw
          case rel => exact ⟨i + 1, o ++ [(n1, n2)], by omega, by go_num, HPR2.out, by simp; omega, hr5, (b4.out.alloc b4.out.size _).trans (hb5.mono b1.out.size), (d4.out.alloc d4.out.size _).trans hb5⟩
          case measure => simp [intOf]; omega
      | false =>
        have hpr := HPR.out
        have hpn : partS x = none := by rw [HP.out]; revert hb; cases b1' <;> cases b2' <;> simp
        rw [HDR.out, partsS_none _ hpn] at hpr
        clear hpn
        have hre := HRE.out
        rw [← hpr] at hre
        have he : R = [] ∧ E = 190 := by
          have h2 : (([] : List Rg), (190 : Int)) = (R, E) := hre
          simp only [Prod.mk.injEq] at h2
          exact ⟨h2.1.symm, h2.2.symm⟩
        have HE := hid he
        clear hpr hre he
        have hb2 : b1' = false ∨ b1' = true ∧ b2' = false := by cases b1' <;> simp_all
        clear hb
        rcases hb2 with rfl | ⟨rfl, rfl⟩
        all_goals cases two
        · obtain rfl : cb' = ca := hcb
          have tok0 : Tk 0 := ⟨⟩
          go_wp2_with (first
            | (go_at_call 22; refine (hcut _ (hG.below HBE.out)).mono ?_; rintro e w2 ⟨rfl, c2⟩; have b2 := hid (below_then HBE.out c2); have d2 := hid (below_then HBE1.out c2); have H2 := hid (HBUF.out.keep c2); clear c2)
            | (go_at_call 23; have t_ : Tk 0 := ‹Tk 0›; refine (hnum1 _ (hG.below b2.out)).mono ?_; rintro e w3 ⟨rfl, c3⟩; have b3 := hid (below_then b2.out c3); have d3 := hid (below_then d2.out c3); have H3 := hid (H2.out.keep c3); clear c3; clear t_; clear tok0; have tok1 : Tk 1 := ⟨⟩)
            | (go_at_call 23; have t_ : Tk 1 := ‹Tk 1›; refine (hnum2 _ (hG.below b3.out)).mono ?_; rintro e w4 ⟨rfl, c4⟩; have b4 := hid (below_then b3.out c4); have d4 := hid (below_then d3.out c4); have H4 := hid (H3.out.keep c4); clear c4; clear t_; clear tok1; have tok2 : Tk 2 := ⟨⟩))
          exact bodyPost_ret (v := .tuple #[.slice none 0 0, .int .i64 190]) (by simp [results, Tryd.results13, go_sem]) rfl ⟨_, by rw [HE.out.2], by rw [HE.out.1]; exact RBuf.nil b4.out.size, b4.out⟩
        · obtain rfl : cb' = cb := hcb
          have tok0 : Tk 0 := ⟨⟩
          go_wp2_with (first
            | (go_at_call 22; refine (hcut _ (hG.below HBE.out)).mono ?_; rintro e w2 ⟨rfl, c2⟩; have b2 := hid (below_then HBE.out c2); have d2 := hid (below_then HBE1.out c2); have H2 := hid (HBUF.out.keep c2); clear c2)
            | (go_at_call 23; have t_ : Tk 0 := ‹Tk 0›; refine (hnum1 _ (hG.below b2.out)).mono ?_; rintro e w3 ⟨rfl, c3⟩; have b3 := hid (below_then b2.out c3); have d3 := hid (below_then d2.out c3); have H3 := hid (H2.out.keep c3); clear c3; clear t_; clear tok0; have tok1 : Tk 1 := ⟨⟩)
            | (go_at_call 23; have t_ : Tk 1 := ‹Tk 1›; refine (hnum2 _ (hG.below b3.out)).mono ?_; rintro e w4 ⟨rfl, c4⟩; have b4 := hid (below_then b3.out c4); have d4 := hid (below_then d3.out c4); have H4 := hid (H3.out.keep c4); clear c4; clear t_; clear tok1; have tok2 : Tk 2 := ⟨⟩))
          exact bodyPost_ret (v := .tuple #[.slice none 0 0, .int .i64 190]) (by simp [results, Tryd.results13, go_sem]) rfl ⟨_, by rw [HE.out.2], by rw [HE.out.1]; exact RBuf.nil b4.out.size, b4.out⟩
        · obtain rfl : cb' = ca := hcb
          have tok0 : Tk 0 := ⟨⟩
          go_wp2_with (first
            | (go_at_call 22; refine (hcut _ (hG.below HBE.out)).mono ?_; rintro e w2 ⟨rfl, c2⟩; have b2 := hid (below_then HBE.out c2); have d2 := hid (below_then HBE1.out c2); have H2 := hid (HBUF.out.keep c2); clear c2)
            | (go_at_call 23; have t_ : Tk 0 := ‹Tk 0›; refine (hnum1 _ (hG.below b2.out)).mono ?_; rintro e w3 ⟨rfl, c3⟩; have b3 := hid (below_then b2.out c3); have d3 := hid (below_then d2.out c3); have H3 := hid (H2.out.keep c3); clear c3; clear t_; clear tok0; have tok1 : Tk 1 := ⟨⟩)
            | (go_at_call 23; have t_ : Tk 1 := ‹Tk 1›; refine (hnum2 _ (hG.below b3.out)).mono ?_; rintro e w4 ⟨rfl, c4⟩; have b4 := hid (below_then b3.out c4); have d4 := hid (below_then d3.out c4); have H4 := hid (H3.out.keep c4); clear c4; clear t_; clear tok1; have tok2 : Tk 2 := ⟨⟩))
          exact bodyPost_ret (v := .tuple #[.slice none 0 0, .int .i64 190]) (by simp [results, Tryd.results13, go_sem]) rfl ⟨_, by rw [HE.out.2], by rw [HE.out.1]; exact RBuf.nil b4.out.size, b4.out⟩
        · obtain rfl : cb' = cb := hcb
          have tok0 : Tk 0 := ⟨⟩
          go_wp2_with (first
            | (go_at_call 22; refine (hcut _ (hG.below HBE.out)).mono ?_; rintro e w2 ⟨rfl, c2⟩; have b2 := hid (below_then HBE.out c2); have d2 := hid (below_then HBE1.out c2); have H2 := hid (HBUF.out.keep c2); clear c2)
            | (go_at_call 23; have t_ : Tk 0 := ‹Tk 0›; refine (hnum1 _ (hG.below b2.out)).mono ?_; rintro e w3 ⟨rfl, c3⟩; have b3 := hid (below_then b2.out c3); have d3 := hid (below_then d2.out c3); have H3 := hid (H2.out.keep c3); clear c3; clear t_; clear tok0; have tok1 : Tk 1 := ⟨⟩)
            | (go_at_call 23; have t_ : Tk 1 := ‹Tk 1›; refine (hnum2 _ (hG.below b3.out)).mono ?_; rintro e w4 ⟨rfl, c4⟩; have b4 := hid (below_then b3.out c4); have d4 := hid (below_then d3.out c4); have H4 := hid (H3.out.keep c4); clear c4; clear t_; clear tok1; have tok2 : Tk 2 := ⟨⟩))
          exact bodyPost_ret (v := .tuple #[.slice none 0 0, .int .i64 190]) (by simp [results, Tryd.results13, go_sem]) rfl ⟨_, by rw [HE.out.2], by rw [HE.out.1]; exact RBuf.nil b4.out.size, b4.out⟩
    · obtain rfl : i = ps.length := by omega
      have hpr := HPR.out
      rw [List.drop_length] at hpr
      have hpo : partsS ps = some o := by rw [← hpr]; simp [partsS]
      have hre := HRE.out
      rw [hpo] at hre
      have hre2 : (if 16 < o.length then (([] : List Rg), (5 : Int)) else (o, 0)) = (R, E) := hre
      have ho := hoi
      obtain ⟨Av, cv, rfl, hcv, -⟩ := HBUF.out.full
      clear hpr hpo hre hbuf hbel hbel1 hil hi hcv
      by_cases h16 : 16 < o.length
      · rw [if_pos h16] at hre2
        simp only [Prod.mk.injEq] at hre2
        have HE := hid (And.intro hre2.1.symm hre2.2.symm)
        clear hre2
        go_wp2_with fail
        exact bodyPost_ret (v := .tuple #[.slice none 0 0, .int .i64 5]) (by simp [results, Tryd.results13, go_sem]) rfl ⟨_, by rw [HE.out.2], by rw [HE.out.1]; exact RBuf.nil HBE.out.size, HBE.out⟩
      · rw [if_neg h16] at hre2
        simp only [Prod.mk.injEq] at hre2
        have HE := hid (And.intro hre2.1.symm hre2.2.symm)
        clear hre2
        go_wp2_with fail
        exact bodyPost_ret (v := .tuple #[.slice Av o.length cv, .int .i64 0]) (by simp [results, Tryd.results13, go_sem]) rfl ⟨_, by rw [HE.out.2], by rw [HE.out.1]; exact HBUF.out.mono b1.out.size, HBE.out⟩

end Go.Proofs.YtifjikpinmgfaaaDoor
