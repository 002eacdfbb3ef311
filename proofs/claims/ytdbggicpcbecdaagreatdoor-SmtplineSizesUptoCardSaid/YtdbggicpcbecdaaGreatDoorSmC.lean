/-
  How a path and its parameters are read.
-/
import Derived.Test.YtdbggicpcbecdaaGreatDoorSmB
namespace Go.Proofs.YtdbggicpcbecdaaGreatDoor
open Go.RowKit Own Sm
set_option linter.unusedVariables false
set_option linter.unusedSimpArgs false
set_option maxRecDepth 100000
attribute [local go_sem] str_toList

/-- Behind the variables that the walks read. -/
def Gb (b : Nat) : Prop := 0 < b ∧ 3 < b ∧ 5 < b
theorem named_err : Tryz.prog.globalNamed "strconv.ErrSyntax" = some 3 := by kernel_rfl
theorem named_tab : Tryz.prog.globalNamed "internal/strconv.uint64pow10" = some 5 := by kernel_rfl
theorem var_low {w w' : World} {n : String} {cs : Array Value} {b g : Nat} (hn : Tryz.prog.globalNamed n = some g) (hg : g < b) (h : w.var? Tryz.prog n = some cs) (hb : Below b w w') : w'.var? Tryz.prog n = some cs := by
  unfold World.var? at h ⊢
  simp only [hn, Option.bind_some] at h ⊢
  rw [hb.block g hg]
  exact h
theorem var_lt {w : World} {n : String} {cs : Array Value} {g : Nat} (hn : Tryz.prog.globalNamed n = some g) (h : w.var? Tryz.prog n = some cs) : g < w.heap.size := by
  unfold World.var? at h
  simp only [hn, Option.bind_some] at h
  rcases Nat.lt_or_ge g w.heap.size with h' | h'
  · exact h'
  · simp [Array.getElem?_eq_none h'] at h
theorem GoodC.low {w w' : World} {b : Nat} (h : GoodC w) (hg : Gb b) (hb : Below b w w') : GoodC w' := by
  obtain ⟨h1, ⟨tp, p, h2⟩, m, h3⟩ := h
  exact ⟨var_low named_tab hg.2.2 h1 hb, ⟨tp, p, var_low named_err hg.2.1 h2 hb⟩, m, (hb.cell hg.1).trans h3⟩
theorem GoodC.gb {w : World} (h : GoodC w) : Gb w.heap.size := by
  obtain ⟨h1, ⟨tp, p, h2⟩, m, h3⟩ := h
  exact ⟨World.block_lt_of_cell? w _ h3, var_lt named_err h2, var_lt named_tab h1⟩
theorem Gb.mono {b c : Nat} (h : Gb b) (hc : b ≤ c) : Gb c := ⟨Nat.lt_of_lt_of_le h.1 hc, Nat.lt_of_lt_of_le h.2.1 hc, Nat.lt_of_lt_of_le h.2.2 hc⟩

theorem cut_lens (t : List UInt8) : (Lib.cut t [32]).1.length ≤ t.length ∧ ((Lib.cut t [32]).2.2 = true → (Lib.cut t [32]).2.1.length < t.length) ∧ (Lib.cut t [32]).2.1.length ≤ t.length := by
  rcases Spl.first 32 t with hn | ⟨x, y, rfl, hx⟩
  · rw [Spl.cut_none hn]; exact ⟨Nat.le_refl _, by simp, by simp⟩
  · rw [Spl.cut_at _ hx]; exact ⟨by simp, fun _ => by simp; omega, by simp; omega⟩
theorem trim_len (t : List UInt8) : (Lib.trimLeftB t 32).length ≤ t.length := (List.dropWhile_suffix _).length_le
theorem path_form {p : List UInt8} (h : (Ad.pathP p).2 = 0) : 2 ≤ p.length := by
  unfold Ad.pathP at h
  split at h
  · rename_i t
    split at h
    · rename_i ht; subst ht; decide
    · split at h
      · rename_i ht
        cases t with
        | nil => simp at ht
        | cons x t => simp
      · simp at h
  · simp at h
theorem mid_text (p : List UInt8) : (str p).extract 1 (p.length - 1) = str p.tail.dropLast := by
  rw [str_cut, List.dropLast_eq_take]
  rcases p with _ | ⟨c, _ | ⟨x, t⟩⟩
  · rfl
  · rfl
  · simp
def endR (P : Bt) : Option (Bool × Int) → Got
  | none => .error 160
  | some (odd, n) => if odd = true then .error 1 else .ok (P, [], n)
theorem parR_end (rcpt : Bool) (f : Nat) (ps : Bt) (odd : Bool) (n : Int) : parR rcpt f false ps odd n = some (odd, n) := by cases f <;> rfl
theorem parR_step (rcpt : Bool) (f : Nat) (ps : Bt) (odd : Bool) (n : Int) : parR rcpt (f + 1) true ps odd n = if visP (Lib.cut (Lib.trimLeftB ps 32) [32]).1 = true then match (if rcpt = true then none else sizeR (Lib.cut (Lib.trimLeftB ps 32) [32]).1) with
      | none => parR rcpt f (Lib.cut (Lib.trimLeftB ps 32) [32]).2.2 (Lib.cut (Lib.trimLeftB ps 32) [32]).2.1 true n
      | some m => parR rcpt f (Lib.cut (Lib.trimLeftB ps 32) [32]).2.2 (Lib.cut (Lib.trimLeftB ps 32) [32]).2.1 odd m
    else none := rfl
def msr : Value → Value → Nat
  | .string s, .bool true => s.size + 1
  | _, _ => 0

set_option maxHeartbeats 8000000 in
theorem smpath_any (b : Nat) (W rest key : List UInt8) (w : World) (hG : GoodC w) (hgb : Gb b) (hk : key.length ≤ 10) (hs : rest.length ≤ 2147483648) (h : CmdIs w b W [] (.slice none 0 0) 0) :
    Calls Tryz.prog 31 #[.pointer (some ⟨b, 0, none⟩), .string (str rest), .string (str key)] w fun e w' => GotIs w w' b W e (pathR key (W == [82, 67, 80, 84]) rest) := by
  have hcp := fun V => cutp_any rest [32] V
  have H := hid h
  have hblt := h.lt
  obtain ⟨rcpt, hrc⟩ : ∃ r, r = (W == [82, 67, 80, 84]) := ⟨_, rfl⟩
  rw [← hrc]
  have eW : (W == [82, 67, 80, 84]) = rcpt := hrc.symm
  clear hrc h
  have hkz := str_size key
  rcases pre_one 32 rest with ⟨h1, t, rfl, h2⟩ | ⟨h1, h2⟩
  · rw [h1, h2] at hcp
    have htl : t.length ≤ 2147483648 := by simp at hs; omega
    have htz := str_size t
    clear h1 h2 hs
    obtain ⟨R, hR⟩ : ∃ R, R = pathR key rcpt (32 :: t) := ⟨_, rfl⟩
    have hR2 : R = if t.length < key.length ∨ great (t.take key.length) ≠ key then .error 160 else
      if (Ad.pathP (Lib.cut (Lib.trimLeftB (t.drop key.length) 32) [32]).1).2 ≠ 0 ∨ (Lib.cut (Lib.trimLeftB (t.drop key.length) 32) [32]).1 = [60, 62] ∧ rcpt = true then .error 160 else match parR rcpt ((Lib.cut (Lib.trimLeftB (t.drop key.length) 32) [32]).2.1.length + 1) (Lib.cut (Lib.trimLeftB (t.drop key.length) 32) [32]).2.2 (Lib.cut (Lib.trimLeftB (t.drop key.length) 32) [32]).2.1 false 0 with
        | none => .error 160
        | some (odd, n) => if odd = true then .error 1 else .ok ((Lib.cut (Lib.trimLeftB (t.drop key.length) 32) [32]).1.tail.dropLast, [], n) := hR
    rw [← hR]
    clear hR
    by_cases hshort : t.length < key.length
    · rw [if_pos (.inl hshort)] at hR2
      subst hR2
      have e1 : (t.length : Int) < (key.length : Int) := by omega
      go_enter Tryz.func31, Tryz.ntmps31
      go_wp2_with (go_at_call 38; refine (hcp _).mono ?_; rintro e w1 ⟨rfl, rfl⟩)
      go_ret
      exact ⟨rfl, by decide, Only.refl _ _⟩
    have e1 : (key.length : Int) ≤ (t.length : Int) := by omega
    have e2 : key.length ≤ t.length := by omega
    have x1 := str_upto t key.length
    have x2 := str_from t key.length t.length rfl
    have hgr := fun V => great_any (t.take key.length) V (by simp; omega)
    obtain ⟨G, hGk⟩ : ∃ G, G = (t.take key.length).map (moveB 97 65) := ⟨_, rfl⟩
    have hGk2 : great (t.take key.length) = G := hGk.symm
    rw [← hGk] at hgr
    rw [hGk2] at hR2
    clear hGk hGk2
    by_cases hkey : G = key
    · subst hkey
      rw [if_neg (by rintro (h | h); exact hshort h; exact h rfl)] at hR2
      have e3 : (G != G) = false := by simp
      obtain ⟨D, hD⟩ : ∃ D, D = t.drop G.length := ⟨_, rfl⟩
      have hDl : D.length ≤ t.length := by rw [hD]; simp
      rw [← hD] at x2 hR2
      have htr := fun V => triml_any D V
      obtain ⟨D2, hD2⟩ : ∃ D2, D2 = Lib.trimLeftB D 32 := ⟨_, rfl⟩
      have hD2l : D2.length ≤ D.length := by rw [hD2]; exact trim_len D
      rw [← hD2] at htr hR2
      have hcut := fun V g => cutsp_any D2 V g (by omega)
      obtain ⟨hl1, hl2, hl3⟩ := cut_lens D2
      obtain ⟨p, ps, more, hpq⟩ : ∃ p ps more, Lib.cut D2 [32] = (p, ps, more) := ⟨_, _, _, rfl⟩
      rw [hpq] at hcut hR2 hl1 hl2 hl3
      dsimp only at hcut hR2 hl1 hl2 hl3
      have hpa := fun V g => path_any p V g (by omega)
      obtain ⟨⟨an, al, ad⟩, ae, hpe⟩ : ∃ a E, Ad.pathP p = (a, E) := ⟨_, _, rfl⟩
      have hform := fun h0 : ae = 0 => path_form (p := p) (by rw [hpe]; exact h0)
      rw [hpe] at hpa hR2
      dsimp only [adV] at hpa hR2
      clear hpq hpe hD hD2 hshort
      have hpz := str_size p
      by_cases hbad : ae ≠ 0 ∨ p = [60, 62] ∧ rcpt = true
      · rw [if_pos hbad] at hR2
        subst hR2
        have hor : (ae == 0) = false ∨ ((ae == 0) = true ∧ (p == [60, 62]) = true ∧ (W == [82, 67, 80, 84]) = true) := by
          by_cases h0 : ae = 0
          · rcases hbad with h | ⟨h, h3⟩
            · exact absurd h0 h
            · exact .inr ⟨by simpa using h0, by simpa using h, by rw [eW, h3]⟩
          · exact .inl (by simpa using h0)
        clear hbad eW
        rcases hor with z1 | ⟨z1, z2, z3⟩
        · have z2 : (ae != 0) = true := by simpa using z1
          clear z1
          go_enter Tryz.func31, Tryz.ntmps31
          go_wp2_with (first
            | (go_at_call 38; refine (hcp _).mono ?_; rintro e w1 ⟨rfl, rfl⟩)
            | (go_at_call 16; refine (hgr _).mono ?_; rintro e w2 ⟨rfl, b2⟩; have B2 := hid b2; clear b2)
            | (go_at_call 41; refine (htr _).mono ?_; rintro e w3 ⟨rfl, rfl⟩)
            | (go_at_call 40; refine (hcut _ (hG.below B2.out).a).mono ?_; rintro e w4 ⟨rfl, b4⟩; have B4 := hid (below_then B2.out b4); clear b4)
            | (go_at_call 42; refine (hpa _ (hG.below B4.out).a).mono ?_; rintro e w5 ⟨rfl, b5⟩; have b6 := below_then B4.out b5; have B5 := hid (b6.alloc b6.size (.cells #[.string (str an), .string (str al), .string (str ad)] 74)); clear b5 b6))
          go_ret
          exact ⟨rfl, by decide, Only.of B5.out (Nat.le_of_lt hblt)⟩
        · have z4 : (ae != 0) = false := by simpa using z1
          have z5 := beq_iff_eq.1 z1
          clear z1
          go_enter Tryz.func31, Tryz.ntmps31
          go_wp2_with (first
            | (go_at_call 38; refine (hcp _).mono ?_; rintro e w1 ⟨rfl, rfl⟩)
            | (go_at_call 16; refine (hgr _).mono ?_; rintro e w2 ⟨rfl, b2⟩; have B2 := hid b2; clear b2)
            | (go_at_call 41; refine (htr _).mono ?_; rintro e w3 ⟨rfl, rfl⟩)
            | (go_at_call 40; refine (hcut _ (hG.below B2.out).a).mono ?_; rintro e w4 ⟨rfl, b4⟩; have B4 := hid (below_then B2.out b4); clear b4)
            | (go_at_call 42; refine (hpa _ (hG.below B4.out).a).mono ?_; rintro e w5 ⟨rfl, b5⟩; have b6 := below_then B4.out b5; have k6 := (H.out.below b6).alloc (.cells #[.string (str an), .string (str al), .string (str ad)] 74); have y0 := k6.c0; have B5 := hid (b6.alloc b6.size (.cells #[.string (str an), .string (str al), .string (str ad)] 74)); clear b5 b6 k6))
          go_ret
          exact ⟨rfl, by decide, Only.of B5.out (Nat.le_of_lt hblt)⟩
      · rw [if_neg hbad] at hR2
        have h0 : ae = 0 := by
          by_cases h : ae = 0
          · exact h
          · exact absurd (.inl h) hbad
        subst h0
        have hform := hform rfl
        have hor : (p == [60, 62]) = false ∨ ((p == [60, 62]) = true ∧ rcpt = false) := by
          by_cases hp : p = [60, 62]
          · right
            refine ⟨by simpa using hp, ?_⟩
            cases hr : rcpt with
            | false => rfl
            | true => exact absurd (.inr ⟨hp, hr⟩) hbad
          · left; simpa using hp
        have HR := hid hR2
        have hmid := mid_text p
        have i1 : (1 : Int) ≤ (p.length : Int) - 1 := by omega
        have i2 : 1 ≤ p.length - 1 := by omega
        clear hbad hR2
        have HE : Hid (endR p.tail.dropLast (parR rcpt (ps.length + 1) more ps false 0) = R) := hid (by rw [HR.out]; rfl)
        obtain ⟨P, hP⟩ : ∃ P, P = p.tail.dropLast := ⟨_, rfl⟩
        rw [← hP] at hmid HE
        have tok0 : Tk 0 := ⟨⟩
        clear hP HR
        rcases hor with z2 | ⟨z2, z3⟩
        all_goals
          have zW : (W == [82, 67, 80, 84]) = rcpt := eW
          try rw [z3] at zW
          go_enter Tryz.func31, Tryz.ntmps31
          go_wp2_with (first
          | (go_at_call 38; refine (hcp _).mono ?_; rintro e w1 ⟨rfl, rfl⟩)
          | (go_at_call 16; refine (hgr _).mono ?_; rintro e w2 ⟨rfl, b2⟩; have B2 := hid b2; clear b2)
          | (go_at_call 41; refine (htr _).mono ?_; rintro e w3 ⟨rfl, rfl⟩)
          | (go_at_call 40; refine (hcut _ (hG.below B2.out).a).mono ?_; rintro e w4 ⟨rfl, b4⟩; have B4 := hid (below_then B2.out b4); clear b4)
          | (go_at_call 42; refine (hpa _ (hG.below B4.out).a).mono ?_; rintro e w5 ⟨rfl, b5⟩; have b6 := below_then B4.out b5; have k6 := (H.out.below b6).alloc (.cells #[.string (str an), .string (str al), .string (str ad)] 74); have y0 := k6.c0; have y1 := k6.c1; have f1 := k6.free 1; have K6 := hid k6; have B5 := hid (b6.alloc b6.size (.cells #[.string (str an), .string (str al), .string (str ad)] 74)); clear b5 b6 k6))
          go_loopw [9, 10, 13] (fun v9 v10 v13 wr => ∃ (f : Nat) (qs : Bt) (mo odd : Bool) (n : Int), v9 = .string (str qs) ∧ v10 = .bool mo ∧ v13 = .bool odd ∧ endR P (parR rcpt f mo qs odd n) = R ∧ (mo = true → qs.length < f) ∧ qs.length ≤ 2147483648 ∧ CmdIs wr b W P (.slice none 0 0) n ∧ Only b w wr) (fun v9 v10 _ _ => msr v9 v10)
          case atStart => exact ⟨_, ps, more, false, 0, rfl, rfl, rfl, HE.out, fun _ => Nat.lt_succ_self _, by omega, K6.out.set1 P, (Only.of B5.out (Nat.le_of_lt hblt)).trans (Only.set _ _ _ _)⟩
          case round =>
            obtain ⟨f, qs, mo, odd, n, rfl, rfl, rfl, hend, hfl, hql, hcmd, honly⟩ := hrel
            have HC := hid hcmd
            have HO := hid honly
            have HEN := hid hend
            have g0 := hcmd.c0
            have g3 := hcmd.c3
            have f3 := hcmd.free 3
            have HG := hid (hG.low hgb honly.low)
            clear hcmd honly hend hcut hpa hgr
            cases mo with
            | false =>
              have hR2 := HEN.out
              rw [parR_end] at hR2
              cases odd with
              | true =>
                have HR3 := hid hR2.symm
                clear hR2 HEN
                go_wp2_with fail
                go_ret
                rw [HR3.out]
                exact ⟨rfl, by decide, HO.out⟩
              | false =>
                have HR3 := hid hR2.symm
                clear hR2 HEN
                go_wp2_with fail
                go_ret
                rw [HR3.out]
                exact ⟨rfl, HO.out, HC.out.at_ (SBuf.nil HC.out.lt)⟩
            | true =>
              have hfl := hfl rfl
              cases f with
              | zero => omega
              | succ f =>
              have hR2 := HEN.out
              rw [parR_step] at hR2
              have htr2 := fun V => triml_any qs V
              have hpl := trim_len qs
              obtain ⟨q1, hq1⟩ : ∃ q1, q1 = Lib.trimLeftB qs 32 := ⟨_, rfl⟩
              rw [← hq1] at htr2 hpl hR2
              have hcu2 := fun V g => cutsp_any q1 V g (by omega)
              obtain ⟨hl1, hl2, hl3⟩ := cut_lens q1
              obtain ⟨q, qs2, mo2, hqq⟩ : ∃ q qs2 mo2, Lib.cut q1 [32] = (q, qs2, mo2) := ⟨_, _, _, rfl⟩
              rw [hqq] at hcu2 hR2 hl1 hl2 hl3
              dsimp only at hcu2 hR2 hl1 hl2 hl3
              have hvi := fun V g => vis_any q V g
              clear hq1 hqq HEN
              cases hvq : visP q with
              | false =>
                rw [hvq] at hvi hR2
                rw [if_neg (by simp)] at hR2
                have HR3 : Hid (R = .error 160) := hid hR2.symm
                clear hR2 hvq
                go_wp2_with (first
                  | (go_at_call 41; refine (htr2 _).mono ?_; rintro e w3 ⟨rfl, rfl⟩)
                  | (go_at_call 40; refine (hcu2 _ HG.out.a).mono ?_; rintro e w7 ⟨rfl, b7⟩; have B7 := hid b7; clear b7)
                  | (go_at_call 39; refine (hvi _ (HG.out.below B7.out).a).mono ?_; rintro e w8 ⟨rfl, b8⟩; have B8 := hid (below_then B7.out b8); clear b8))
                go_ret
                rw [HR3.out]
                exact ⟨rfl, by decide, HO.out.trans (Only.of B8.out (Nat.le_of_lt HC.out.lt))⟩
              | true =>
                rw [hvq] at hvi hR2
                rw [if_pos rfl] at hR2
                have hgr2 := fun V => great_any q V (by omega)
                obtain ⟨G2, hG2⟩ : ∃ G2, G2 = q.map (moveB 97 65) := ⟨_, rfl⟩
                rw [← hG2] at hgr2
                have hsr : sizeR q = if Lib.hasPrefix G2 [83, 73, 90, 69, 61] = true ∧ (Dec.numR (G2.drop 5) 4294967295).2 = true then some (Dec.numR (G2.drop 5) 4294967295).1 else none := by rw [hG2]; rfl
                have hcp2 := fun V => cutp_any G2 [83, 73, 90, 69, 61] V
                obtain ⟨T, hT⟩ : ∃ T, T = Lib.trimPrefix G2 [83, 73, 90, 69, 61] := ⟨_, rfl⟩
                obtain ⟨is, his⟩ : ∃ is, is = Lib.hasPrefix G2 [83, 73, 90, 69, 61] := ⟨_, rfl⟩
                rw [← hT, ← his] at hcp2
                have hTd : is = true → T = G2.drop 5 := by
                  intro h
                  rw [hT]
                  unfold Lib.trimPrefix
                  rw [← his, if_pos h]; rfl
                rw [← his] at hsr
                have hnu := fun V g => number_any T 4294967295 V g
                obtain ⟨m, ok, hmo⟩ : ∃ m ok, Dec.numR T 4294967295 = (m, ok) := ⟨_, _, rfl⟩
                rw [hmo] at hnu
                dsimp only at hnu
                clear hG2 hT his hvq
                by_cases hset : is = true ∧ ok = true ∧ rcpt = false
                · obtain ⟨r1, r2, r3⟩ := hset
                  subst r1 r2
                  rw [← hTd rfl, hmo] at hsr
                  rw [if_neg (by rw [r3]; simp), hsr] at hR2
                  have HR3 : Hid (endR P (parR rcpt f mo2 qs2 odd m) = R) := hid hR2
                  have zW2 : (W == [82, 67, 80, 84]) = false := by rw [eW, r3]
                  clear hR2 hsr hmo hTd
                  go_wp2_with (first
                    | (go_at_call 41; refine (htr2 _).mono ?_; rintro e w3 ⟨rfl, rfl⟩)
                    | (go_at_call 40; refine (hcu2 _ HG.out.a).mono ?_; rintro e w7 ⟨rfl, b7⟩; have B7 := hid b7; clear b7)
                    | (go_at_call 39; refine (hvi _ (HG.out.below B7.out).a).mono ?_; rintro e w8 ⟨rfl, b8⟩; have B8 := hid (below_then B7.out b8); clear b8)
                    | (go_at_call 16; refine (hgr2 _).mono ?_; rintro e w9 ⟨rfl, b9⟩; have B9 := hid (below_then B8.out b9); clear b9)
                    | (go_at_call 38; refine (hcp2 _).mono ?_; rintro e w1 ⟨rfl, rfl⟩)
                    | (go_at_call 43; refine (hnu _ (HG.out.below B9.out)).mono ?_; rintro e wa ⟨rfl, ba⟩; have Ba := hid (below_then B9.out ba); have ka := HC.out.below Ba.out; have g4 := ka.c0; have g5 := ka.c3; have f5 := ka.free 3; have KA := hid ka; clear ba ka))
                  go_roundw
                  case rel => exact ⟨f, qs2, mo2, odd, m, rfl, rfl, rfl, HR3.out, fun h => by have := hl2 h; omega, by omega, KA.out.set3 m, (HO.out.trans (Only.of Ba.out (Nat.le_of_lt HC.out.lt))).trans (Only.set _ _ _ _)⟩
                  case measure => (cases mo2 <;> simp [msr, str_size]) <;> (try have := hl2 rfl) <;> omega
                · have hnone : (if rcpt = true then none else sizeR q) = none := by
                    by_cases h1 : rcpt = true
                    · rw [if_pos h1]
                    · rw [if_neg h1, hsr]
                      rw [if_neg]
                      rintro ⟨h2, h3⟩
                      rw [← hTd h2, hmo] at h3
                      exact hset ⟨h2, h3, by simpa using h1⟩
                  rw [hnone] at hR2
                  have HR3 : Hid (endR P (parR rcpt f mo2 qs2 true n) = R) := hid hR2
                  have hway : is = false ∨ (is = true ∧ ok = false) ∨ (is = true ∧ ok = true ∧ rcpt = true) := by
                    by_cases k1 : is = true
                    · by_cases k2 : ok = true
                      · by_cases k3 : rcpt = true
                        · exact .inr (.inr ⟨k1, k2, k3⟩)
                        · exact absurd ⟨k1, k2, by simpa using k3⟩ hset
                      · exact .inr (.inl ⟨k1, by simpa using k2⟩)
                    · exact .inl (by simpa using k1)
                  clear hR2 hsr hnone hset hmo hTd
                  rcases hway with r1 | ⟨r1, r2⟩ | ⟨r1, r2, r3⟩
                  rotate_left 2
                  try exact absurd (z3.symm.trans r3) (by decide)
                  all_goals
                    subst r1
                    try subst r2
                    have zW2 : (W == [82, 67, 80, 84]) = rcpt := eW
                    try rw [r3] at zW2
                    go_wp2_with (first
                      | (go_at_call 41; refine (htr2 _).mono ?_; rintro e w3 ⟨rfl, rfl⟩)
                      | (go_at_call 40; refine (hcu2 _ HG.out.a).mono ?_; rintro e w7 ⟨rfl, b7⟩; have B7 := hid b7; clear b7)
                      | (go_at_call 39; refine (hvi _ (HG.out.below B7.out).a).mono ?_; rintro e w8 ⟨rfl, b8⟩; have B8 := hid (below_then B7.out b8); clear b8)
                      | (go_at_call 16; refine (hgr2 _).mono ?_; rintro e w9 ⟨rfl, b9⟩; have B9 := hid (below_then B8.out b9); clear b9)
                      | (go_at_call 38; refine (hcp2 _).mono ?_; rintro e w1 ⟨rfl, rfl⟩)
                      | (go_at_call 43; refine (hnu _ (HG.out.below B9.out)).mono ?_; rintro e wa ⟨rfl, ba⟩; have Ba := hid (below_then B9.out ba); have ka := HC.out.below Ba.out; have g4 := ka.c0; have KA := hid ka; clear ba ka))
                    go_roundw
                    case rel => exact ⟨f, qs2, mo2, true, n, rfl, rfl, rfl, HR3.out, fun h => by have := hl2 h; omega, by omega, KA.out, HO.out.trans (Only.of Ba.out (Nat.le_of_lt HC.out.lt))⟩
                    case measure => (cases mo2 <;> simp [msr, str_size]) <;> (try have := hl2 rfl) <;> omega
    · rw [if_pos (.inr hkey)] at hR2
      subst hR2
      have e3 : (G != key) = true := by simpa using hkey
      have e4 : (G == key) = false := by simpa using hkey
      clear hkey hshort
      go_enter Tryz.func31, Tryz.ntmps31
      go_wp2_with (first
        | (go_at_call 38; refine (hcp _).mono ?_; rintro e w1 ⟨rfl, rfl⟩)
        | (go_at_call 16; refine (hgr _).mono ?_; rintro e w2 ⟨rfl, b2⟩; have B2 := hid b2; clear b2))
      go_ret
      exact ⟨rfl, by decide, Only.of B2.out (Nat.le_of_lt hblt)⟩
  · rw [h1] at hcp
    have hR : pathR key rcpt rest = .error 160 := by
      unfold pathR
      split
      · simp at h2
      · rfl
    obtain ⟨T, hT⟩ : ∃ T, T = Lib.trimPrefix rest [32] := ⟨_, rfl⟩
    rw [← hT] at hcp
    clear hT h1 h2 hs
    rw [hR]
    clear hR
    go_enter Tryz.func31, Tryz.ntmps31
    go_wp2_with (go_at_call 38; refine (hcp _).mono ?_; rintro e w1 ⟨rfl, rfl⟩)
    go_ret
    exact ⟨rfl, by decide, Only.refl _ _⟩

end Go.Proofs.YtdbggicpcbecdaaGreatDoor
