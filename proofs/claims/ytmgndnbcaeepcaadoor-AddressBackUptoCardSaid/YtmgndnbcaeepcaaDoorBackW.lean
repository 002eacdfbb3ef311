/-
  AddressBack walked.
-/
import Derived.Test.YtmgndnbcaeepcaaDoorShown
import Derived.Test.YtmgndnbcaeepcaaDoorSrcA
import Derived.Test.YtmgndnbcaeepcaaDoorBackL
namespace Go.Proofs.YtmgndnbcaeepcaaDoor
open Go.RowKit Own Ad
set_option linter.unusedVariables false
set_option linter.unusedSimpArgs false
set_option maxRecDepth 100000
attribute [local go_sem] str_toList

def wantA (p : Pr) : Ad := ([], p.1, p.2)
theorem brk_text (s : List UInt8) : { data := #[60] } ++ str s ++ { data := #[62] } = str (60 :: (s ++ [62])) := by
  show str [60] ++ str s ++ str [62] = _
  rw [str_append, str_append]; rfl
theorem sep_text (W : List Pr) (p : Pr) (h : W ≠ []) : str (joinT W) ++ { data := #[44, 32] } ++ str (atT p.1 p.2) = str (joinT (W ++ [p])) := by
  rw [joinT_snoc _ _ h]
  show str (joinT W) ++ str [44, 32] ++ _ = _
  rw [str_append, str_append]
theorem fst_text (p : Pr) : str (joinT []) ++ str (atT p.1 p.2) = str (joinT ([] ++ [p])) := by
  show str [] ++ _ = _
  rw [str_append]
  rw [List.nil_append, List.nil_append, joinT_one]
theorem map_at {W : List Pr} {k : Nat} {p : Pr} (h : W[k]? = some p) : (W.map wantA)[k]? = some ([], p.1, p.2) := by simp [h, wantA]
theorem print_good {n x y : List UInt8} (h : goodP x y = true) : printP (n, x, y) = (atT x y, 0) := by
  unfold printP; rw [if_pos h]; rfl
theorem print_bad {n x y : List UInt8} (h : goodP x y = false) : printP (n, x, y) = ([], 90) := by
  unfold printP; rw [if_neg (by simp [h])]

set_option maxHeartbeats 8000000 in
theorem back_walk (s : List UInt8) (A : Option Addr) (nn cc : Nat) (l : List Ad) (w : World) (hG : GoodA w) (h0 : 0 < w.heap.size) (hA : SrcA w A l) (hn : nn = l.length) (hs : s.length ≤ 1048576) (hl : l.length ≤ 1048576) (hb : ∀ a ∈ l, a.1.length + a.2.1.length + a.2.2.length ≤ 1048576) :
    Calls Tryd.prog 5 #[.string (str s), .slice A nn cc] w fun e w' => e = .returned (.bool true) ∧ Below w.heap.size w w' := by
  subst hn
  have HA := hid hA
  have HBD := hid hb
  clear hA hb
  have p1 := fun W g => parse_any s W g (by omega)
  obtain ⟨⟨pn, pl, pd⟩, pe, hp⟩ : ∃ a E, parseP s = (a, E) := ⟨_, _, rfl⟩
  rw [hp] at p1
  dsimp only [adV] at p1
  have hsz := str_size s
  by_cases hE : pe = 0
  · subst hE
    have r1 := fun W g => print_any pn pl pd W g (by have := (parse_ok hp).2.2; have h2 : s.length = (atT pl pd).length := congrArg List.length this; simp [atT] at h2; omega) (by have := (parse_ok hp).2.2; have h2 : s.length = (atT pl pd).length := congrArg List.length this; simp [atT] at h2; omega)
    rw [print_back hp] at r1
    have q1 := fun W g => path_any (60 :: (s ++ [62])) W g (by simp; omega)
    rw [path_back hp, ← brk_text] at q1
    dsimp only [adV] at r1 q1
    clear hp
    go_enter Tryd.func5, Tryd.ntmps5
    go_wp2_with (first
      | (go_at_call 7; refine (shown_any _ hG h0).mono ?_; rintro e w1 ⟨rfl, c1⟩; have B1 := hid c1; clear c1)
      | (go_at_call 9; refine (p1 _ (hG.below B1.out)).mono ?_; rintro e w2 ⟨rfl, c2⟩; have b2 := below_then B1.out c2; have B2 := hid (b2.alloc b2.size (.cells #[.string (str pn), .string (str pl), .string (str pd)] 31)); have A2 := hid (AdAt.new w2 (pn, pl, pd)); have x0 := A2.out.c0; have x1 := A2.out.c1; have x2 := A2.out.c2; clear b2 c2)
      | (go_at_call 13; refine (r1 _ (hG.below B2.out)).mono ?_; rintro e w3 ⟨rfl, c3⟩; have B3 := hid (below_then B2.out c3); have A3 := hid (A2.out.below c3); clear c3)
      | (go_at_call 11; refine (q1 _ (hG.below B3.out)).mono ?_; rintro e w4 ⟨rfl, c4⟩; have a4 := (A3.out.below c4).alloc (.cells #[.string (str pn), .string (str pl), .string (str pd)] 31); have b4 := below_then B3.out c4; have B4 := hid (b4.alloc b4.size (.cells #[.string (str pn), .string (str pl), .string (str pd)] 31)); have d4 := AdAt.new w4 (pn, pl, pd); have y0 := a4.c0; have y1 := a4.c1; have y2 := a4.c2; have z0 := d4.c0; have z1 := d4.c1; have z2 := d4.c2; clear b4 c4 a4 d4))
    obtain ⟨w5, hw5⟩ : ∃ w5, w5 = (w4.alloc (.cells #[.string (str pn), .string (str pl), .string (str pd)] 31)) := ⟨_, rfl⟩
    have b5 : Hid (Below w.heap.size w w5) := hid (by rw [hw5]; exact B4.out)
    have hN : w4.heap.size + 1 = w5.heap.size := by rw [hw5]; simp
    rw [hN, ← hw5]
    clear hw5 hN
    have HB0 : Hid (ABuf w5.heap.size (w5.alloc (.cells #[] 31)) (.slice (some ⟨w5.heap.size, 0, none⟩) 0 0) []) := hid (GBuf.lit w5 #[] 0 (by decide) rfl)
    have L0 : Hid (Below w5.heap.size w5 (w5.alloc (.cells #[] 31))) := hid ((Below.refl _ _).alloc (Nat.le_refl _) _)
    go_loopw [12, 13, 14] (fun v12 v13 v14 wr => ∃ (i : Nat) (W : List Pr), i ≤ l.length ∧ v14 = .int .i64 i ∧ v12 = .string (str (joinT W)) ∧ ABuf w5.heap.size wr v13 (W.map wantA) ∧ Below w5.heap.size w5 wr ∧ W.length ≤ 16 ∧ (∀ p ∈ W, okPr p = true)) (fun _ _ v14 _ => l.length - (intOf v14).toNat)
    case atStart => exact ⟨0, [], Nat.zero_le _, rfl, rfl, HB0.out, L0.out, by decide, by simp⟩
    case round =>
      obtain ⟨i, W, hi, rfl, rfl, hbuf, hbel, hW16, hWok⟩ := hrel
      have HBUF := hid hbuf
      have HBE := hid hbel
      have HW := hid (below_then b5.out hbel)
      have HOK := hid hWok
      obtain ⟨A6, c6, rfl, hc6, s6⟩ := hbuf.src
      have S6 := hid s6
      have hlen : (W.map wantA).length = W.length := List.length_map _
      rw [hlen] at hc6 HBUF
      rw [hlen]
      clear hbuf hbel hWok s6 hlen
      by_cases hgo : i < l.length ∧ W.length < 16
      · obtain ⟨hi2, hw16⟩ := hgo
        obtain ⟨⟨n, x, y⟩, hxy⟩ : ∃ r, l[i]? = some r := ⟨_, List.getElem?_eq_getElem hi2⟩
        obtain ⟨bk, of, rfl⟩ := srcA_some HA.out (fun h => by rw [h] at hi2; simp at hi2)
        obtain ⟨hx0, hx1, hx2⟩ := (HA.out.below HW.out).at_ hxy
        have hxb := HBD.out _ (List.mem_of_getElem? hxy)
        dsimp only at hxb
        have hpr := fun W g => print_any n x y W g (by omega) (by omega)
        have hk0 : (0 : Int) ≤ (i : Int) := Int.natCast_nonneg _
        have hk1 : (i : Int) < (l.length : Int) := by omega
        have hbk : bk < w5.heap.size := World.block_lt_of_cell? w5 _ ((HA.out.below b5.out).at_ hxy).1
        cases hq : goodP x y with
        | false =>
          rw [print_bad hq] at hpr
          clear hq
          go_wp2_with (go_at_call 13; refine (hpr _ (hG.below HW.out)).mono ?_; rintro e w6 ⟨rfl, e6⟩; have E6 := hid e6; clear e6)
          go_roundw
          case rel => exact ⟨i + 1, W, by omega, by go_num, rfl, ABuf.keep HBUF.out E6.out, below_then HBE.out E6.out, hW16, HOK.out⟩
          case measure => (simp [intOf]) <;> omega
        | true =>
          rw [print_good hq] at hpr
          have hok2 : ∀ p ∈ W ++ [(x, y)], okPr p = true := by
            intro p hp
            rcases List.mem_append.1 hp with h | h
            · exact HOK.out p h
            · have : p = (x, y) := by simpa using h
              subst this; exact hq
          have hl1 : (joinT W).length ≤ 131 * W.length := joinT_len HOK.out
          have hl2 : (atT x y).length ≤ 129 := atT_len hq
          have hz1 := str_size (joinT W)
          have hz2 := str_size (atT x y)
          have OK2 := hid hok2
          clear hok2 hq
          by_cases hWn : W = []
          · subst hWn
            go_wp2_with (go_at_call 13; refine (hpr _ (hG.below HW.out)).mono ?_; rintro e w6 ⟨rfl, e6⟩; have E6 := hid e6; clear e6)
            obtain ⟨hy0, hy1, hy2⟩ := (HA.out.below (below_then HW.out E6.out)).at_ hxy
            have ha1 := fun ob => keep_below ((Below.refl _ _).alloc (Nat.le_refl _) ob).drew rfl hy1
            have ha2 := fun ob => keep_below ((Below.refl _ _).alloc (Nat.le_refl _) ob).drew rfl hy2
            have HB6 := hid (ABuf.keep HBUF.out E6.out)
            have H6 := hid (below_then HBE.out E6.out)
            have hol : ([] : List Ad).length ≤ 1000000000 := by simp
            go_region_held3 (fun w' => w'.cell? ⟨bk, of + i * 3 + 1, none⟩ = some (.string (str x)) ∧ w'.cell? ⟨bk, of + i * 3 + 2, none⟩ = some (.string (str y)))
              (first
                | exact ⟨hy1, hy2⟩
                | exact ⟨ha1 _, ha2 _⟩
                | go_keep
                | assumption
                | (go_split_ands; exact ⟨(hgr.cell hbk).trans (by assumption), (hgr.cell hbk).trans (by assumption)⟩))
              ((refine step_abuf w5.heap.size _ (by rfl) _ _ (by rfl) _ [] ([], x, y) (by rfl) ((HB6.out.alloc _).keep (Below.refl _ _).drew) _ 1 (by rfl) (fun j u hu => keep_below (Below.refl _ _).drew rfl (alit _ ([], x, y) _ _ _ (by rfl) (by rfl) j u hu)) hol ?_; intro v' w' hr2 hgr))
            go_wp2_with fail
            go_roundw
            case rel => exact ⟨i + 1, [] ++ [(x, y)], by omega, by go_num, by rw [← fst_text], (by simpa [wantA] using hr2), (H6.out.alloc H6.out.size _).drew.trans hgr, by simp, OK2.out⟩
            case measure => (simp [intOf]) <;> omega
          · have hWp : 0 < W.length := List.length_pos_iff.2 hWn
            have hst := sep_text W (x, y) hWn
            go_wp2_with (go_at_call 13; refine (hpr _ (hG.below HW.out)).mono ?_; rintro e w6 ⟨rfl, e6⟩; have E6 := hid e6; clear e6)
            obtain ⟨hy0, hy1, hy2⟩ := (HA.out.below (below_then HW.out E6.out)).at_ hxy
            have ha1 := fun ob => keep_below ((Below.refl _ _).alloc (Nat.le_refl _) ob).drew rfl hy1
            have ha2 := fun ob => keep_below ((Below.refl _ _).alloc (Nat.le_refl _) ob).drew rfl hy2
            have HB6 := hid (ABuf.keep HBUF.out E6.out)
            have H6 := hid (below_then HBE.out E6.out)
            have hol : (W.map wantA).length ≤ 1000000000 := by simp; omega
            go_region_held3 (fun w' => w'.cell? ⟨bk, of + i * 3 + 1, none⟩ = some (.string (str x)) ∧ w'.cell? ⟨bk, of + i * 3 + 2, none⟩ = some (.string (str y)))
              (first
                | exact ⟨hy1, hy2⟩
                | exact ⟨ha1 _, ha2 _⟩
                | go_keep
                | assumption
                | (go_split_ands; exact ⟨(hgr.cell hbk).trans (by assumption), (hgr.cell hbk).trans (by assumption)⟩))
              ((refine step_abuf w5.heap.size _ (by rfl) _ _ (by rfl) _ (W.map wantA) ([], x, y) (by rfl) ((HB6.out.alloc _).keep (Below.refl _ _).drew) _ 1 (by rfl) (fun j u hu => keep_below (Below.refl _ _).drew rfl (alit _ ([], x, y) _ _ _ (by rfl) (by rfl) j u hu)) hol ?_; intro v' w' hr2 hgr))
            go_wp2_with fail
            go_roundw
            case rel => exact ⟨i + 1, W ++ [(x, y)], by omega, by go_num, by rw [← hst], (by rw [List.map_append]; exact hr2), (H6.out.alloc H6.out.size _).drew.trans hgr, by simp; omega, OK2.out⟩
            case measure => (simp [intOf]) <;> omega
      · have hgo2 : l.length ≤ i ∨ 16 ≤ W.length := by omega
        clear hgo
        by_cases hWn : W = []
        · subst hWn
          have hil : i = l.length := by simp at hgo2; omega
          subst hil
          have hli := fun V g g0 => list_any 16 20 (joinT []) V _ _ lst_none g g0 (by unfold Ascii; simp [joinT, Lib.join_nil]) (by decide) (by decide) (by decide)
          go_wp2_with (go_at_call 8; refine (hli _ (hG.below HW.out) (Nat.lt_of_lt_of_le h0 HW.out.size)).mono ?_; rintro e w7 ⟨v7, rfl, r7, c7⟩; have B7 := hid (below_then HW.out c7); clear c7)
          go_ret
          exact ⟨by first | rfl | simp, B7.out⟩
        · have hWp : 0 < W.length := List.length_pos_iff.2 hWn
          have hli := fun V g g0 => list_any 16 20 (joinT W) V _ _ (lst_wanted hWn HOK.out hW16) g g0 (by unfold Ascii; exact joinT_bytes HOK.out) (by decide) (by decide) (by have := joinT_len HOK.out; omega)
          by_cases hil : i < l.length
          · have hw : 16 ≤ W.length := by omega
            go_wp2_with (go_at_call 8; refine (hli _ (hG.below HW.out) (Nat.lt_of_lt_of_le h0 HW.out.size)).mono ?_; rintro e w7 ⟨v7, rfl, r7, c7⟩; obtain ⟨A7, k7, rfl, hk7, s7⟩ := r7.src; have S7 := hid s7; have T6 := hid (S6.out.below c7); have B7 := hid (below_then HW.out c7); have hl7 : (W.map fun p => (([], p.1, p.2) : Ad)).length = W.length := List.length_map _; rw [hl7] at hk7; rw [hl7]; clear c7 r7 s7 hl7)
            go_loopw [19] (fun v19 wr2 => ∃ j q : Nat, j ≤ W.length ∧ v19 = .int .i64 j ∧ wr2 = w7.drewN q) (fun v19 _ => W.length - (intOf v19).toNat)
            case atStart => exact ⟨0, 0, Nat.zero_le _, rfl, rfl⟩
            case round =>
              obtain ⟨j, q, hj, rfl, rfl⟩ := hrel
              by_cases hjl : j < W.length
              · obtain ⟨⟨x, y⟩, hxy⟩ : ∃ r, W[j]? = some r := ⟨_, List.getElem?_eq_getElem hjl⟩
                have hm := map_at hxy
                obtain ⟨b7, o7, rfl⟩ := srcA_some S7.out (fun h => by rw [List.map_eq_nil_iff] at h; exact hWn h)
                obtain ⟨b6, o6, rfl⟩ := srcA_some T6.out (fun h => by rw [List.map_eq_nil_iff] at h; exact hWn h)
                obtain ⟨u0, u1, u2⟩ := S7.out.at_ (n := []) (x := x) (y := y) hm
                obtain ⟨t0, t1, t2⟩ := T6.out.at_ (n := []) (x := x) (y := y) hm
                have hk0 : (0 : Int) ≤ (j : Int) := Int.natCast_nonneg _
                have hk1 : (j : Int) < (W.length : Int) := by omega
                clear hm hxy
                go_wp2_with fail
                go_quiet (fail)
                go_step
                go_step
                go_wp2_with fail
                go_roundw
                case rel => exact ⟨j + 1, _, by omega, by go_num, rfl⟩
                case measure => (simp [intOf]) <;> omega
              · obtain rfl : j = W.length := by omega
                go_wp2_with fail
                go_ret
                exact ⟨by first | rfl | simp, below_dn2 B7.out q⟩
          · have hw : l.length ≤ i := by omega
            go_wp2_with (go_at_call 8; refine (hli _ (hG.below HW.out) (Nat.lt_of_lt_of_le h0 HW.out.size)).mono ?_; rintro e w7 ⟨v7, rfl, r7, c7⟩; obtain ⟨A7, k7, rfl, hk7, s7⟩ := r7.src; have S7 := hid s7; have T6 := hid (S6.out.below c7); have B7 := hid (below_then HW.out c7); have hl7 : (W.map fun p => (([], p.1, p.2) : Ad)).length = W.length := List.length_map _; rw [hl7] at hk7; rw [hl7]; clear c7 r7 s7 hl7)
            go_loopw [19] (fun v19 wr2 => ∃ j q : Nat, j ≤ W.length ∧ v19 = .int .i64 j ∧ wr2 = w7.drewN q) (fun v19 _ => W.length - (intOf v19).toNat)
            case atStart => exact ⟨0, 0, Nat.zero_le _, rfl, rfl⟩
            case round =>
              obtain ⟨j, q, hj, rfl, rfl⟩ := hrel
              by_cases hjl : j < W.length
              · obtain ⟨⟨x, y⟩, hxy⟩ : ∃ r, W[j]? = some r := ⟨_, List.getElem?_eq_getElem hjl⟩
                have hm := map_at hxy
                obtain ⟨b7, o7, rfl⟩ := srcA_some S7.out (fun h => by rw [List.map_eq_nil_iff] at h; exact hWn h)
                obtain ⟨b6, o6, rfl⟩ := srcA_some T6.out (fun h => by rw [List.map_eq_nil_iff] at h; exact hWn h)
                obtain ⟨u0, u1, u2⟩ := S7.out.at_ (n := []) (x := x) (y := y) hm
                obtain ⟨t0, t1, t2⟩ := T6.out.at_ (n := []) (x := x) (y := y) hm
                have hk0 : (0 : Int) ≤ (j : Int) := Int.natCast_nonneg _
                have hk1 : (j : Int) < (W.length : Int) := by omega
                clear hm hxy
                go_wp2_with fail
                go_quiet (fail)
                go_step
                go_step
                go_wp2_with fail
                go_roundw
                case rel => exact ⟨j + 1, _, by omega, by go_num, rfl⟩
                case measure => (simp [intOf]) <;> omega
              · obtain rfl : j = W.length := by omega
                go_wp2_with fail
                go_ret
                exact ⟨by first | rfl | simp, below_dn2 B7.out q⟩
  · have eF : (pe == 0) = false := by simpa using hE
    clear hp
    go_enter Tryd.func5, Tryd.ntmps5
    go_wp2_with (first
      | (go_at_call 7; refine (shown_any _ hG h0).mono ?_; rintro e w1 ⟨rfl, c1⟩; have B1 := hid c1; clear c1)
      | (go_at_call 9; refine (p1 _ (hG.below B1.out)).mono ?_; rintro e w2 ⟨rfl, c2⟩; have b2 := below_then B1.out c2; have B2 := hid (b2.alloc b2.size (.cells #[.string (str pn), .string (str pl), .string (str pd)] 31)); clear b2 c2))
    obtain ⟨w5, hw5⟩ : ∃ w5, w5 = (w2.alloc (.cells #[.string (str pn), .string (str pl), .string (str pd)] 31)) := ⟨_, rfl⟩
    have b5 : Hid (Below w.heap.size w w5) := hid (by rw [hw5]; exact B2.out)
    have hN : w2.heap.size + 1 = w5.heap.size := by rw [hw5]; simp
    rw [hN, ← hw5]
    clear hw5 hN
    have HB0 : Hid (ABuf w5.heap.size (w5.alloc (.cells #[] 31)) (.slice (some ⟨w5.heap.size, 0, none⟩) 0 0) []) := hid (GBuf.lit w5 #[] 0 (by decide) rfl)
    have L0 : Hid (Below w5.heap.size w5 (w5.alloc (.cells #[] 31))) := hid ((Below.refl _ _).alloc (Nat.le_refl _) _)
    go_loopw [12, 13, 14] (fun v12 v13 v14 wr => ∃ (i : Nat) (W : List Pr), i ≤ l.length ∧ v14 = .int .i64 i ∧ v12 = .string (str (joinT W)) ∧ ABuf w5.heap.size wr v13 (W.map wantA) ∧ Below w5.heap.size w5 wr ∧ W.length ≤ 16 ∧ (∀ p ∈ W, okPr p = true)) (fun _ _ v14 _ => l.length - (intOf v14).toNat)
    case atStart => exact ⟨0, [], Nat.zero_le _, rfl, rfl, HB0.out, L0.out, by decide, by simp⟩
    case round =>
      obtain ⟨i, W, hi, rfl, rfl, hbuf, hbel, hW16, hWok⟩ := hrel
      have HBUF := hid hbuf
      have HBE := hid hbel
      have HW := hid (below_then b5.out hbel)
      have HOK := hid hWok
      obtain ⟨A6, c6, rfl, hc6, s6⟩ := hbuf.src
      have S6 := hid s6
      have hlen : (W.map wantA).length = W.length := List.length_map _
      rw [hlen] at hc6 HBUF
      rw [hlen]
      clear hbuf hbel hWok s6 hlen
      by_cases hgo : i < l.length ∧ W.length < 16
      · obtain ⟨hi2, hw16⟩ := hgo
        obtain ⟨⟨n, x, y⟩, hxy⟩ : ∃ r, l[i]? = some r := ⟨_, List.getElem?_eq_getElem hi2⟩
        obtain ⟨bk, of, rfl⟩ := srcA_some HA.out (fun h => by rw [h] at hi2; simp at hi2)
        obtain ⟨hx0, hx1, hx2⟩ := (HA.out.below HW.out).at_ hxy
        have hxb := HBD.out _ (List.mem_of_getElem? hxy)
        dsimp only at hxb
        have hpr := fun W g => print_any n x y W g (by omega) (by omega)
        have hk0 : (0 : Int) ≤ (i : Int) := Int.natCast_nonneg _
        have hk1 : (i : Int) < (l.length : Int) := by omega
        have hbk : bk < w5.heap.size := World.block_lt_of_cell? w5 _ ((HA.out.below b5.out).at_ hxy).1
        cases hq : goodP x y with
        | false =>
          rw [print_bad hq] at hpr
          clear hq
          go_wp2_with (go_at_call 13; refine (hpr _ (hG.below HW.out)).mono ?_; rintro e w6 ⟨rfl, e6⟩; have E6 := hid e6; clear e6)
          go_roundw
          case rel => exact ⟨i + 1, W, by omega, by go_num, rfl, ABuf.keep HBUF.out E6.out, below_then HBE.out E6.out, hW16, HOK.out⟩
          case measure => (simp [intOf]) <;> omega
        | true =>
          rw [print_good hq] at hpr
          have hok2 : ∀ p ∈ W ++ [(x, y)], okPr p = true := by
            intro p hp
            rcases List.mem_append.1 hp with h | h
            · exact HOK.out p h
            · have : p = (x, y) := by simpa using h
              subst this; exact hq
          have hl1 : (joinT W).length ≤ 131 * W.length := joinT_len HOK.out
          have hl2 : (atT x y).length ≤ 129 := atT_len hq
          have hz1 := str_size (joinT W)
          have hz2 := str_size (atT x y)
          have OK2 := hid hok2
          clear hok2 hq
          by_cases hWn : W = []
          · subst hWn
            go_wp2_with (go_at_call 13; refine (hpr _ (hG.below HW.out)).mono ?_; rintro e w6 ⟨rfl, e6⟩; have E6 := hid e6; clear e6)
            obtain ⟨hy0, hy1, hy2⟩ := (HA.out.below (below_then HW.out E6.out)).at_ hxy
            have ha1 := fun ob => keep_below ((Below.refl _ _).alloc (Nat.le_refl _) ob).drew rfl hy1
            have ha2 := fun ob => keep_below ((Below.refl _ _).alloc (Nat.le_refl _) ob).drew rfl hy2
            have HB6 := hid (ABuf.keep HBUF.out E6.out)
            have H6 := hid (below_then HBE.out E6.out)
            have hol : ([] : List Ad).length ≤ 1000000000 := by simp
            go_region_held3 (fun w' => w'.cell? ⟨bk, of + i * 3 + 1, none⟩ = some (.string (str x)) ∧ w'.cell? ⟨bk, of + i * 3 + 2, none⟩ = some (.string (str y)))
              (first
                | exact ⟨hy1, hy2⟩
                | exact ⟨ha1 _, ha2 _⟩
                | go_keep
                | assumption
                | (go_split_ands; exact ⟨(hgr.cell hbk).trans (by assumption), (hgr.cell hbk).trans (by assumption)⟩))
              ((refine step_abuf w5.heap.size _ (by rfl) _ _ (by rfl) _ [] ([], x, y) (by rfl) ((HB6.out.alloc _).keep (Below.refl _ _).drew) _ 1 (by rfl) (fun j u hu => keep_below (Below.refl _ _).drew rfl (alit _ ([], x, y) _ _ _ (by rfl) (by rfl) j u hu)) hol ?_; intro v' w' hr2 hgr))
            go_wp2_with fail
            go_roundw
            case rel => exact ⟨i + 1, [] ++ [(x, y)], by omega, by go_num, by rw [← fst_text], (by simpa [wantA] using hr2), (H6.out.alloc H6.out.size _).drew.trans hgr, by simp, OK2.out⟩
            case measure => (simp [intOf]) <;> omega
          · have hWp : 0 < W.length := List.length_pos_iff.2 hWn
            have hst := sep_text W (x, y) hWn
            go_wp2_with (go_at_call 13; refine (hpr _ (hG.below HW.out)).mono ?_; rintro e w6 ⟨rfl, e6⟩; have E6 := hid e6; clear e6)
            obtain ⟨hy0, hy1, hy2⟩ := (HA.out.below (below_then HW.out E6.out)).at_ hxy
            have ha1 := fun ob => keep_below ((Below.refl _ _).alloc (Nat.le_refl _) ob).drew rfl hy1
            have ha2 := fun ob => keep_below ((Below.refl _ _).alloc (Nat.le_refl _) ob).drew rfl hy2
            have HB6 := hid (ABuf.keep HBUF.out E6.out)
            have H6 := hid (below_then HBE.out E6.out)
            have hol : (W.map wantA).length ≤ 1000000000 := by simp; omega
            go_region_held3 (fun w' => w'.cell? ⟨bk, of + i * 3 + 1, none⟩ = some (.string (str x)) ∧ w'.cell? ⟨bk, of + i * 3 + 2, none⟩ = some (.string (str y)))
              (first
                | exact ⟨hy1, hy2⟩
                | exact ⟨ha1 _, ha2 _⟩
                | go_keep
                | assumption
                | (go_split_ands; exact ⟨(hgr.cell hbk).trans (by assumption), (hgr.cell hbk).trans (by assumption)⟩))
              ((refine step_abuf w5.heap.size _ (by rfl) _ _ (by rfl) _ (W.map wantA) ([], x, y) (by rfl) ((HB6.out.alloc _).keep (Below.refl _ _).drew) _ 1 (by rfl) (fun j u hu => keep_below (Below.refl _ _).drew rfl (alit _ ([], x, y) _ _ _ (by rfl) (by rfl) j u hu)) hol ?_; intro v' w' hr2 hgr))
            go_wp2_with fail
            go_roundw
            case rel => exact ⟨i + 1, W ++ [(x, y)], by omega, by go_num, by rw [← hst], (by rw [List.map_append]; exact hr2), (H6.out.alloc H6.out.size _).drew.trans hgr, by simp; omega, OK2.out⟩
            case measure => (simp [intOf]) <;> omega
      · have hgo2 : l.length ≤ i ∨ 16 ≤ W.length := by omega
        clear hgo
        by_cases hWn : W = []
        · subst hWn
          have hil : i = l.length := by simp at hgo2; omega
          subst hil
          have hli := fun V g g0 => list_any 16 20 (joinT []) V _ _ lst_none g g0 (by unfold Ascii; simp [joinT, Lib.join_nil]) (by decide) (by decide) (by decide)
          go_wp2_with (go_at_call 8; refine (hli _ (hG.below HW.out) (Nat.lt_of_lt_of_le h0 HW.out.size)).mono ?_; rintro e w7 ⟨v7, rfl, r7, c7⟩; have B7 := hid (below_then HW.out c7); clear c7)
          go_ret
          exact ⟨by first | rfl | simp, B7.out⟩
        · have hWp : 0 < W.length := List.length_pos_iff.2 hWn
          have hli := fun V g g0 => list_any 16 20 (joinT W) V _ _ (lst_wanted hWn HOK.out hW16) g g0 (by unfold Ascii; exact joinT_bytes HOK.out) (by decide) (by decide) (by have := joinT_len HOK.out; omega)
          by_cases hil : i < l.length
          · have hw : 16 ≤ W.length := by omega
            go_wp2_with (go_at_call 8; refine (hli _ (hG.below HW.out) (Nat.lt_of_lt_of_le h0 HW.out.size)).mono ?_; rintro e w7 ⟨v7, rfl, r7, c7⟩; obtain ⟨A7, k7, rfl, hk7, s7⟩ := r7.src; have S7 := hid s7; have T6 := hid (S6.out.below c7); have B7 := hid (below_then HW.out c7); have hl7 : (W.map fun p => (([], p.1, p.2) : Ad)).length = W.length := List.length_map _; rw [hl7] at hk7; rw [hl7]; clear c7 r7 s7 hl7)
            go_loopw [19] (fun v19 wr2 => ∃ j q : Nat, j ≤ W.length ∧ v19 = .int .i64 j ∧ wr2 = w7.drewN q) (fun v19 _ => W.length - (intOf v19).toNat)
            case atStart => exact ⟨0, 0, Nat.zero_le _, rfl, rfl⟩
            case round =>
              obtain ⟨j, q, hj, rfl, rfl⟩ := hrel
              by_cases hjl : j < W.length
              · obtain ⟨⟨x, y⟩, hxy⟩ : ∃ r, W[j]? = some r := ⟨_, List.getElem?_eq_getElem hjl⟩
                have hm := map_at hxy
                obtain ⟨b7, o7, rfl⟩ := srcA_some S7.out (fun h => by rw [List.map_eq_nil_iff] at h; exact hWn h)
                obtain ⟨b6, o6, rfl⟩ := srcA_some T6.out (fun h => by rw [List.map_eq_nil_iff] at h; exact hWn h)
                obtain ⟨u0, u1, u2⟩ := S7.out.at_ (n := []) (x := x) (y := y) hm
                obtain ⟨t0, t1, t2⟩ := T6.out.at_ (n := []) (x := x) (y := y) hm
                have hk0 : (0 : Int) ≤ (j : Int) := Int.natCast_nonneg _
                have hk1 : (j : Int) < (W.length : Int) := by omega
                clear hm hxy
                go_wp2_with fail
                go_quiet (fail)
                go_step
                go_step
                go_wp2_with fail
                go_roundw
                case rel => exact ⟨j + 1, _, by omega, by go_num, rfl⟩
                case measure => (simp [intOf]) <;> omega
              · obtain rfl : j = W.length := by omega
                go_wp2_with fail
                go_ret
                exact ⟨by first | rfl | simp, below_dn2 B7.out q⟩
          · have hw : l.length ≤ i := by omega
            go_wp2_with (go_at_call 8; refine (hli _ (hG.below HW.out) (Nat.lt_of_lt_of_le h0 HW.out.size)).mono ?_; rintro e w7 ⟨v7, rfl, r7, c7⟩; obtain ⟨A7, k7, rfl, hk7, s7⟩ := r7.src; have S7 := hid s7; have T6 := hid (S6.out.below c7); have B7 := hid (below_then HW.out c7); have hl7 : (W.map fun p => (([], p.1, p.2) : Ad)).length = W.length := List.length_map _; rw [hl7] at hk7; rw [hl7]; clear c7 r7 s7 hl7)
            go_loopw [19] (fun v19 wr2 => ∃ j q : Nat, j ≤ W.length ∧ v19 = .int .i64 j ∧ wr2 = w7.drewN q) (fun v19 _ => W.length - (intOf v19).toNat)
            case atStart => exact ⟨0, 0, Nat.zero_le _, rfl, rfl⟩
            case round =>
              obtain ⟨j, q, hj, rfl, rfl⟩ := hrel
              by_cases hjl : j < W.length
              · obtain ⟨⟨x, y⟩, hxy⟩ : ∃ r, W[j]? = some r := ⟨_, List.getElem?_eq_getElem hjl⟩
                have hm := map_at hxy
                obtain ⟨b7, o7, rfl⟩ := srcA_some S7.out (fun h => by rw [List.map_eq_nil_iff] at h; exact hWn h)
                obtain ⟨b6, o6, rfl⟩ := srcA_some T6.out (fun h => by rw [List.map_eq_nil_iff] at h; exact hWn h)
                obtain ⟨u0, u1, u2⟩ := S7.out.at_ (n := []) (x := x) (y := y) hm
                obtain ⟨t0, t1, t2⟩ := T6.out.at_ (n := []) (x := x) (y := y) hm
                have hk0 : (0 : Int) ≤ (j : Int) := Int.natCast_nonneg _
                have hk1 : (j : Int) < (W.length : Int) := by omega
                clear hm hxy
                go_wp2_with fail
                go_quiet (fail)
                go_step
                go_step
                go_wp2_with fail
                go_roundw
                case rel => exact ⟨j + 1, _, by omega, by go_num, rfl⟩
                case measure => (simp [intOf]) <;> omega
              · obtain rfl : j = W.length := by omega
                go_wp2_with fail
                go_ret
                exact ⟨by first | rfl | simp, below_dn2 B7.out q⟩

end Go.Proofs.YtmgndnbcaeepcaaDoor
