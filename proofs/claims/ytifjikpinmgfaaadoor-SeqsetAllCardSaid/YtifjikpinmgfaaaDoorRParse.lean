/-
  The reference's Parse of a set.
-/
import Derived.Test.YtifjikpinmgfaaaDoorRSplit
namespace Go.Proofs.YtifjikpinmgfaaaDoor
open Go.RowKit Own Dec Sq
set_option linter.unusedVariables false
set_option linter.unusedSimpArgs false
set_option maxRecDepth 100000

namespace Sq
theorem numS_colon {b : List UInt8} (h : (58 : UInt8) ∈ b) : (numS b).2 = false := by
  unfold numS
  rw [if_neg (by rintro rfl; simp at h), numR_other b _ (fun hd => by have := hd 58 h; unfold isDig at this; exact absurd this.2 (by decide))]
  rfl
/-- A part's ends, as the reference tells them. -/
theorem partS_one {x : List UInt8} (h : (58 : UInt8) ∉ x) : partS x = if (numS x).2 = true then some ((numS x).1, (numS x).1) else none := by
  unfold partS
  rw [Spl.cut_none h]
  cases h2 : (numS x).2 <;> simp [h2]
theorem partS_two {a b : List UInt8} (h : (58 : UInt8) ∉ a) : partS (a ++ 58 :: b) = if ((numS a).2 && (numS b).2) = true then some ((numS a).1, (numS b).1) else none := by
  unfold partS
  rw [Spl.cut_at b h]
  cases h2 : (numS a).2 <;> cases h3 : (numS b).2 <;> simp [h2, h3]
theorem ends_of (x : List UInt8) : (∃ n, Spl.splitL 58 x = [n] ∧ n = x ∧ partS x = if (numS n).2 = true then some ((numS n).1, (numS n).1) else none) ∨
    (∃ a b, Spl.splitL 58 x = [a, b] ∧ a.length ≤ x.length ∧ b.length ≤ x.length ∧ partS x = if ((numS a).2 && (numS b).2) = true then some ((numS a).1, (numS b).1) else none) ∨
    (∃ a b c r, Spl.splitL 58 x = a :: b :: c :: r ∧ a.length ≤ x.length ∧ partS x = none) := by
  rcases Spl.first 58 x with h | ⟨a, b, rfl, h⟩
  · exact .inl ⟨x, Spl.splitL_none h, rfl, partS_one h⟩
  · rcases Spl.first 58 b with h2 | ⟨b1, b2, rfl, h2⟩
    · exact .inr (.inl ⟨a, b, by rw [Spl.splitL_at b h, Spl.splitL_none h2], by simp, by simp; omega, partS_two h⟩)
    · obtain ⟨c, r, hcr⟩ : ∃ c r, Spl.splitL 58 b2 = c :: r := by
        cases hc : Spl.splitL 58 b2 with
        | nil => exact absurd hc (Spl.splitL_ne 58 b2)
        | cons c r => exact ⟨c, r, rfl⟩
      exact .inr (.inr ⟨a, b1, c, r, by rw [Spl.splitL_at _ h, Spl.splitL_at b2 h2, hcr], by simp, by rw [partS_two h, numS_colon (b := b1 ++ 58 :: b2) (by simp)]; simp⟩)
end Sq

set_option maxHeartbeats 4000000 in
theorem rparse_any (l : List UInt8) (w : World) (hl : l.length ≤ 100000000) :
    Calls Tryd.prog 14 #[.string (str l)] w fun e w' => ∃ v, e = .returned (.tuple #[v, .int .i64 (parseS l).2]) ∧ RBuf w.heap.size w' v (parseS l).1 ∧ Below w.heap.size w w' := by
  have hsp := rsplit_any 44 l w hl
  have hple := Spl.splitL_len 44 l
  have hpp := Spl.splitL_parts 44 l
  have hpne := Spl.splitL_ne 44 l
  obtain ⟨R, E, hRE⟩ : ∃ R E, parseS l = (R, E) := ⟨_, _, rfl⟩
  have hre : parseV (partsS (Spl.splitL 44 l)) = (R, E) := hRE
  rw [hRE]
  obtain ⟨ps, hps⟩ : ∃ ps, ps = Spl.splitL 44 l := ⟨_, rfl⟩
  rw [← hps] at hsp hple hpp hre hpne
  have HRE := hid hre
  have HPP := hid hpp
  have hsp1 : Calls Tryd.prog 24 #[.string (str l), .int .u8 44] w fun e w' => ∃ g c, e = .returned (.slice (some ⟨g, 0, none⟩) ps.length c) ∧ ps.length ≤ c ∧ (∀ j x, ps[j]? = some x → w'.cell? ⟨g, j, none⟩ = some (.string (str x))) ∧ Below w.heap.size w w' := by
    refine hsp.mono ?_
    rintro e w' ⟨v, rfl, hb, hbel⟩
    obtain ⟨A, c, rfl, hc, h1, h2⟩ := hb.full
    cases A with
    | none => exact absurd (h1 rfl) hpne
    | some p =>
      obtain ⟨g, rfl, _, hcell⟩ := h2 p rfl
      exact ⟨g, c, rfl, hc, hcell, hbel⟩
  clear hRE hps hre hpp hsp hpne
  go_enter Tryd.func14, Tryd.ntmps14
  go_wp2_with (go_at_call 24; refine hsp1.mono ?_; rintro e w1 ⟨g, gc, rfl, hgc, hs1, c1⟩; have S1 := hid hs1; have b1 := hid c1; clear hs1 c1)
  go_loopw [5, 6] (fun v5 v6 wr => ∃ (i : Nat) (o : List Rg), i ≤ ps.length ∧ v6 = .int .i64 i ∧ (partsS (ps.drop i)).map (fun x => o ++ x) = partsS ps ∧ o.length ≤ i ∧ RBuf w1.heap.size wr v5 o ∧ Below w.heap.size w wr ∧ Below w1.heap.size w1 wr) (fun _ v6 _ => ps.length - (intOf v6).toNat)
  case atStart => exact ⟨0, [], Nat.zero_le _, rfl, by simp, by simp, RBuf.nil (Nat.le_refl _), b1.out, Below.refl _ _⟩
  case round =>
    obtain ⟨i, o, hi, rfl, hpr, hoi, hbuf, hbel, hbel1⟩ := hrel
    have HPR := hid hpr
    have HBUF := hid hbuf
    have HBE := hid hbel
    have HBE1 := hid hbel1
    by_cases hil : i < ps.length
    · obtain ⟨x, hx⟩ : ∃ x, ps[i]? = some x := ⟨_, List.getElem?_eq_getElem hil⟩
      have hcell0 := S1.out i x hx
      have hcell := keep_below hbel1 rfl hcell0
      have hdr : ps.drop i = x :: ps.drop (i + 1) := by
        obtain ⟨h1, h2⟩ := List.getElem?_eq_some_iff.1 hx
        rw [List.drop_eq_getElem_cons hil, h2]
      have hxl := (HPP.out x (List.mem_of_getElem? hx)).2
      have hspx := rsplit_any 58 x wr (by omega)
      have hxne := Spl.splitL_ne 58 x
      have HDR := hid hdr
      have hend := ends_of x
      have hesl := Spl.splitL_len 58 x
      obtain ⟨es, hes⟩ : ∃ es, es = Spl.splitL 58 x := ⟨_, rfl⟩
      rw [← hes] at hspx hxne hend hesl
      have hesb : es.length ≤ 100000001 := by omega
      have hsp2 : Calls Tryd.prog 24 #[.string (str x), .int .u8 58] wr fun e w' => ∃ g c, e = .returned (.slice (some ⟨g, 0, none⟩) es.length c) ∧ es.length ≤ c ∧ (∀ j x, es[j]? = some x → w'.cell? ⟨g, j, none⟩ = some (.string (str x))) ∧ Below wr.heap.size wr w' := by
        refine hspx.mono ?_
        rintro e w' ⟨v, rfl, hb, hbel⟩
        obtain ⟨A, c, rfl, hc, h1, h2⟩ := hb.full
        cases A with
        | none => exact absurd (h1 rfl) hxne
        | some p =>
          obtain ⟨g, rfl, _, hcell⟩ := h2 p rfl
          exact ⟨g, c, rfl, hc, hcell, hbel⟩
      clear hesl hes hspx hxne hx hdr hcell0 hbuf hbel hbel1 hpr
      rcases hend with ⟨n, rfl, hnx, hp⟩ | ⟨a, b, rfl, hla, hlb, hp⟩ | ⟨a, b, c, r, rfl, hla, hp⟩
      · subst hnx
        have hnum1 := fun W => rnumS_any n W (by omega)
        obtain ⟨n1, b1', hn1⟩ : ∃ n1 b, numS n = (n1, b) := ⟨_, _, rfl⟩
        rw [hn1] at hnum1 hp
        dsimp only at hnum1 hp
        have e1 : decide (2 < (([n] : List (List UInt8)).length : Int)) = false := rfl
        have e2 : ((([n] : List (List UInt8)).length : Int) == 2) = false := rfl
        clear hn1
        simp only [List.length_cons, List.length_nil] at hsp2
        cases b1' with
        | true =>
          rw [if_pos rfl] at hp
          have hpr := HPR.out
          rw [HDR.out, partsS_some _ hp] at hpr
          have hpr2 : (partsS (ps.drop (i + 1))).map (fun x => (o ++ [(n1, n1)]) ++ x) = partsS ps := by
            rw [← hpr]
            cases partsS (ps.drop (i + 1)) <;> simp
          have HPR2 := hid hpr2
          clear hpr hpr2 hp
          go_wp2_with (first
            | (go_at_call 24; refine hsp2.mono ?_; rintro e w2 ⟨g2, gc2, rfl, hgc2, hs2, c2⟩; have hy1 := hs2 0 _ rfl; have b2 := hid (below_then HBE.out c2); have d2 := hid (below_then HBE1.out c2); have H2 := hid (HBUF.out.keep c2); clear hs2 c2)
            | (go_at_call 25; refine (hnum1 _).mono ?_; rintro e w3 ⟨rfl, c3⟩; have b3 := hid (below_then b2.out c3); have d3 := hid (below_then d2.out c3); have H3 := hid (H2.out.keep c3); clear c3)
            | (at_builtin; refine wpList_rbuf w1.heap.size _ rfl _ _ rfl u5 o (n1, n1) rfl (H3.out.alloc _) _ 1 rfl (rlit _ (n1, n1) _ _ _ rfl rfl) (by omega) ?_; intro v' w5 hr5 hb5))
          go_roundw
          case rel => exact ⟨i + 1, o ++ [(n1, n1)], by omega, by go_num, HPR2.out, by simp; omega, hr5, (b3.out.alloc b3.out.size _).trans (hb5.mono b1.out.size), (d3.out.alloc d3.out.size _).trans hb5⟩
          case measure => simp [intOf]; omega
        | false =>
          rw [if_neg (by simp)] at hp
          have hpr := HPR.out
          rw [HDR.out, partsS_none _ hp] at hpr
          have hre := HRE.out
          rw [← hpr] at hre
          have he : R = [] ∧ E = 190 := by
            have h2 : (([] : List Rg), (190 : Int)) = (R, E) := hre
            simp only [Prod.mk.injEq] at h2
            exact ⟨h2.1.symm, h2.2.symm⟩
          have HE := hid he
          clear hpr hre he hp
          go_wp2_with (first
            | (go_at_call 24; refine hsp2.mono ?_; rintro e w2 ⟨g2, gc2, rfl, hgc2, hs2, c2⟩; have hy1 := hs2 0 _ rfl; have b2 := hid (below_then HBE.out c2); have d2 := hid (below_then HBE1.out c2); have H2 := hid (HBUF.out.keep c2); clear hs2 c2)
            | (go_at_call 25; refine (hnum1 _).mono ?_; rintro e w3 ⟨rfl, c3⟩; have b3 := hid (below_then b2.out c3); have d3 := hid (below_then d2.out c3); have H3 := hid (H2.out.keep c3); clear c3))
          exact bodyPost_ret (v := .tuple #[.slice none 0 0, .int .i64 190]) (by simp [results, Tryd.results14, go_sem]) rfl ⟨_, by rw [HE.out.2], by rw [HE.out.1]; exact RBuf.nil b3.out.size, b3.out⟩
      · have hnum1 := fun W => rnumS_any a W (by omega)
        have hnum2 := fun W => rnumS_any b W (by omega)
        obtain ⟨n1, b1', hn1⟩ : ∃ n1 b, numS a = (n1, b) := ⟨_, _, rfl⟩
        obtain ⟨n2, b2', hn2⟩ : ∃ n1 c, numS b = (n1, c) := ⟨_, _, rfl⟩
        rw [hn1] at hnum1 hp
        rw [hn2] at hnum2 hp
        dsimp only at hnum1 hnum2 hp
        clear hn1 hn2
        simp only [List.length_cons, List.length_nil] at hsp2
        have tok0 : Tk 0 := ⟨⟩
        cases b1'
        · rw [Bool.false_and, if_neg (by simp)] at hp
          have hpr := HPR.out
          rw [HDR.out, partsS_none _ hp] at hpr
          have hre := HRE.out
          rw [← hpr] at hre
          have he : R = [] ∧ E = 190 := by
            have h2 : (([] : List Rg), (190 : Int)) = (R, E) := hre
            simp only [Prod.mk.injEq] at h2
            exact ⟨h2.1.symm, h2.2.symm⟩
          have HE := hid he
          clear hpr hre he hp
          go_wp2_with (first
            | (go_at_call 24; refine hsp2.mono ?_; rintro e w2 ⟨g2, gc2, rfl, hgc2, hs2, c2⟩; have hy1 := hs2 0 _ rfl; have hy2 := hs2 1 _ rfl; have b2 := hid (below_then HBE.out c2); have d2 := hid (below_then HBE1.out c2); have H2 := hid (HBUF.out.keep c2); clear hs2 c2)
                | (go_at_call 25; have t_ : Tk 0 := ‹Tk 0›; refine (hnum1 _).mono ?_; rintro e w3 ⟨rfl, c3⟩; have hz2 := keep_below c3 rfl hy2; have b3 := hid (below_then b2.out c3); have d3 := hid (below_then d2.out c3); have H3 := hid (H2.out.keep c3); clear c3; clear t_; clear tok0; have tok1 : Tk 1 := ⟨⟩)
                | (go_at_call 25; have t_ : Tk 1 := ‹Tk 1›; refine (hnum2 _).mono ?_; rintro e w4 ⟨rfl, c4⟩; have b4 := hid (below_then b3.out c4); have d4 := hid (below_then d3.out c4); have H4 := hid (H3.out.keep c4); clear c4; clear t_; clear tok1; have tok2 : Tk 2 := ⟨⟩))
          exact bodyPost_ret (v := .tuple #[.slice none 0 0, .int .i64 190]) (by simp [results, Tryd.results14, go_sem]) rfl ⟨_, by rw [HE.out.2], by rw [HE.out.1]; exact RBuf.nil b4.out.size, b4.out⟩
        · cases b2'
          · rw [Bool.and_false, if_neg (by simp)] at hp
            have hpr := HPR.out
            rw [HDR.out, partsS_none _ hp] at hpr
            have hre := HRE.out
            rw [← hpr] at hre
            have he : R = [] ∧ E = 190 := by
              have h2 : (([] : List Rg), (190 : Int)) = (R, E) := hre
              simp only [Prod.mk.injEq] at h2
              exact ⟨h2.1.symm, h2.2.symm⟩
            have HE := hid he
            clear hpr hre he hp
            go_wp2_with (first
              | (go_at_call 24; refine hsp2.mono ?_; rintro e w2 ⟨g2, gc2, rfl, hgc2, hs2, c2⟩; have hy1 := hs2 0 _ rfl; have hy2 := hs2 1 _ rfl; have b2 := hid (below_then HBE.out c2); have d2 := hid (below_then HBE1.out c2); have H2 := hid (HBUF.out.keep c2); clear hs2 c2)
                | (go_at_call 25; have t_ : Tk 0 := ‹Tk 0›; refine (hnum1 _).mono ?_; rintro e w3 ⟨rfl, c3⟩; have hz2 := keep_below c3 rfl hy2; have b3 := hid (below_then b2.out c3); have d3 := hid (below_then d2.out c3); have H3 := hid (H2.out.keep c3); clear c3; clear t_; clear tok0; have tok1 : Tk 1 := ⟨⟩)
                | (go_at_call 25; have t_ : Tk 1 := ‹Tk 1›; refine (hnum2 _).mono ?_; rintro e w4 ⟨rfl, c4⟩; have b4 := hid (below_then b3.out c4); have d4 := hid (below_then d3.out c4); have H4 := hid (H3.out.keep c4); clear c4; clear t_; clear tok1; have tok2 : Tk 2 := ⟨⟩))
            exact bodyPost_ret (v := .tuple #[.slice none 0 0, .int .i64 190]) (by simp [results, Tryd.results14, go_sem]) rfl ⟨_, by rw [HE.out.2], by rw [HE.out.1]; exact RBuf.nil b4.out.size, b4.out⟩
          · rw [Bool.and_true, if_pos rfl] at hp
            have hpr := HPR.out
            rw [HDR.out, partsS_some _ hp] at hpr
            have hpr2 : (partsS (ps.drop (i + 1))).map (fun x => (o ++ [(n1, n2)]) ++ x) = partsS ps := by
              rw [← hpr]
              cases partsS (ps.drop (i + 1)) <;> simp
            have HPR2 := hid hpr2
            clear hpr hpr2 hp
            go_wp2_with (first
              | (go_at_call 24; refine hsp2.mono ?_; rintro e w2 ⟨g2, gc2, rfl, hgc2, hs2, c2⟩; have hy1 := hs2 0 _ rfl; have hy2 := hs2 1 _ rfl; have b2 := hid (below_then HBE.out c2); have d2 := hid (below_then HBE1.out c2); have H2 := hid (HBUF.out.keep c2); clear hs2 c2)
                | (go_at_call 25; have t_ : Tk 0 := ‹Tk 0›; refine (hnum1 _).mono ?_; rintro e w3 ⟨rfl, c3⟩; have hz2 := keep_below c3 rfl hy2; have b3 := hid (below_then b2.out c3); have d3 := hid (below_then d2.out c3); have H3 := hid (H2.out.keep c3); clear c3; clear t_; clear tok0; have tok1 : Tk 1 := ⟨⟩)
                | (go_at_call 25; have t_ : Tk 1 := ‹Tk 1›; refine (hnum2 _).mono ?_; rintro e w4 ⟨rfl, c4⟩; have b4 := hid (below_then b3.out c4); have d4 := hid (below_then d3.out c4); have H4 := hid (H3.out.keep c4); clear c4; clear t_; clear tok1; have tok2 : Tk 2 := ⟨⟩)
                | (at_builtin; refine wpList_rbuf w1.heap.size _ rfl _ _ rfl u5 o (n1, n2) rfl (H4.out.alloc _) _ 1 rfl (rlit _ (n1, n2) _ _ _ rfl rfl) (by omega) ?_; intro v' w5 hr5 hb5))
            go_roundw
            case rel => exact ⟨i + 1, o ++ [(n1, n2)], by omega, by go_num, HPR2.out, by simp; omega, hr5, (b4.out.alloc b4.out.size _).trans (hb5.mono b1.out.size), (d4.out.alloc d4.out.size _).trans hb5⟩
            case measure => simp [intOf]; omega
      · have hnum1 := fun W => rnumS_any a W (by omega)
        obtain ⟨n1, b1', hn1⟩ : ∃ n1 b, numS a = (n1, b) := ⟨_, _, rfl⟩
        rw [hn1] at hnum1
        dsimp only at hnum1
        clear hn1
        simp only [List.length_cons] at hsp2
        have hr0 : 2 < r.length + 1 + 1 + 1 := by omega
        have e2 : (((r.length : Int) + 1 + 1 + 1) == 2) = false := by rw [beq_eq_false_iff_ne]; omega
        have hrb : r.length ≤ 100000000 := by simp at hesb; omega
        clear hesb
        have hpr := HPR.out
        rw [HDR.out, partsS_none _ hp] at hpr
        have hre := HRE.out
        rw [← hpr] at hre
        have he : R = [] ∧ E = 190 := by
          have h2 : (([] : List Rg), (190 : Int)) = (R, E) := hre
          simp only [Prod.mk.injEq] at h2
          exact ⟨h2.1.symm, h2.2.symm⟩
        have HE := hid he
        clear hpr hre he hp
        go_wp2_with (first
          | (go_at_call 24; refine hsp2.mono ?_; rintro e w2 ⟨g2, gc2, rfl, hgc2, hs2, c2⟩; have hy1 := hs2 0 _ rfl; have b2 := hid (below_then HBE.out c2); have d2 := hid (below_then HBE1.out c2); have H2 := hid (HBUF.out.keep c2); clear hs2 c2)
          | (go_at_call 25; refine (hnum1 _).mono ?_; rintro e w3 ⟨rfl, c3⟩; have b3 := hid (below_then b2.out c3); have d3 := hid (below_then d2.out c3); have H3 := hid (H2.out.keep c3); clear c3))
        exact bodyPost_ret (v := .tuple #[.slice none 0 0, .int .i64 190]) (by simp [results, Tryd.results14, go_sem]) rfl ⟨_, by rw [HE.out.2], by rw [HE.out.1]; exact RBuf.nil b3.out.size, b3.out⟩
    · obtain rfl : i = ps.length := by omega
      have hpr := HPR.out
      rw [List.drop_length] at hpr
      have hpo : partsS ps = some o := by rw [← hpr]; simp [partsS]
      have hre := HRE.out
      rw [hpo] at hre
      have hre2 : (if 16 < o.length then (([] : List Rg), (5 : Int)) else (o, 0)) = (R, E) := hre
      have ho := hoi
      obtain ⟨Av, cv, rfl, hcv, -⟩ := HBUF.out.full
      clear hpr hpo hre hbuf hbel hbel1 hil hi hcv
      by_cases h16 : 16 < o.length
      · rw [if_pos h16] at hre2
        simp only [Prod.mk.injEq] at hre2
        have HE := hid (And.intro hre2.1.symm hre2.2.symm)
        clear hre2
        go_wp2_with fail
        exact bodyPost_ret (v := .tuple #[.slice none 0 0, .int .i64 5]) (by simp [results, Tryd.results14, go_sem]) rfl ⟨_, by rw [HE.out.2], by rw [HE.out.1]; exact RBuf.nil HBE.out.size, HBE.out⟩
      · rw [if_neg h16] at hre2
        simp only [Prod.mk.injEq] at hre2
        have HE := hid (And.intro hre2.1.symm hre2.2.symm)
        clear hre2
        go_wp2_with fail
        exact bodyPost_ret (v := .tuple #[.slice Av o.length cv, .int .i64 0]) (by simp [results, Tryd.results14, go_sem]) rfl ⟨_, by rw [HE.out.2], by rw [HE.out.1]; exact HBUF.out.mono b1.out.size, HBE.out⟩

end Go.Proofs.YtifjikpinmgfaaaDoor
