/-
  An address of a list.
-/
import Derived.Test.YtmgndnbcaeepcaaDoorPhr
import Derived.Test.YtmgndnbcaeepcaaDoorReg
import Derived.Lib.IndexAny
import Derived.Deep.RegionHeld3
namespace Go.Proofs.YtmgndnbcaeepcaaDoor
open Go.RowKit Own Ad
set_option linter.unusedVariables false
set_option linter.unusedSimpArgs false
set_option maxRecDepth 100000
attribute [local go_sem] str_toList

namespace Ad
theorem take_tw (p : UInt8 → Bool) : ∀ r : List UInt8, r.take (r.takeWhile p).length = r.takeWhile p ∧ r.drop (r.takeWhile p).length = r.dropWhile p
  | [] => ⟨rfl, rfl⟩
  | c :: r => by
    have ih := take_tw p r
    cases hp : p c with
    | true =>
      rw [List.takeWhile_cons_of_pos hp, List.dropWhile_cons_of_pos hp]
      simp [ih.1, ih.2]
    | false =>
      have hp' : ¬ p c = true := by rw [hp]; simp
      rw [List.takeWhile_cons_of_neg hp', List.dropWhile_cons_of_neg hp']
      simp
theorem isCut_eq (b : UInt8) : [44, 32, 9].contains b = isCut b := by
  unfold isCut
  simp only [List.contains_cons, List.contains_nil, Bool.or_false, Bool.or_assoc]
theorem any_eq : ∀ r : List UInt8, Lib.indexAny (r ++ [44]) [44, 32, 9] = ((r.takeWhile fun c => !isCut c).length : Int)
  | [] => by decide
  | c :: r => by
    have ih := any_eq r
    rw [List.cons_append]
    unfold Lib.indexAny
    rw [isCut_eq]
    cases hc : isCut c with
    | true => rw [List.takeWhile_cons_of_neg (by simp [hc])]; rfl
    | false =>
      rw [List.takeWhile_cons_of_pos (by simp [hc]), ih]
      have h3 : (((r.takeWhile fun c => !isCut c).length : Int) == -1) = false := by rw [beq_eq_false_iff_ne]; omega
      rw [h3]
      simp
theorem gt_eq : ∀ t : List UInt8, (62 : UInt8) ∈ t → Lib.indexByte t 62 = ((t.takeWhile fun c => c != 62).length : Int) ∧ t.take ((t.takeWhile fun c => c != 62).length + 1) = (t.takeWhile fun c => c != 62) ++ [62] ∧ t.drop ((t.takeWhile fun c => c != 62).length + 1) = (t.dropWhile fun c => c != 62).tail ∧ (t.takeWhile fun c => c != 62).length + 1 ≤ t.length
  | [], h => by simp at h
  | c :: t, h => by
    by_cases hc : c = 62
    · subst hc
      rw [List.takeWhile_cons_of_neg (by simp), List.dropWhile_cons_of_neg (by simp)]
      simp [Lib.indexByte]
    · have hc2 : (c == 62) = false := by simpa using hc
      have hm : (62 : UInt8) ∈ t := by
        rcases List.mem_cons.1 h with h | h
        · exact absurd h.symm hc
        · exact h
      obtain ⟨h1, h2, h3, h4⟩ := gt_eq t hm
      rw [List.takeWhile_cons_of_pos (by simp [bne, hc2]), List.dropWhile_cons_of_pos (by simp [bne, hc2])]
      refine ⟨?_, by simp [h2], by simpa using h3, by simp; omega⟩
      have h5 : (Lib.indexByte t 62 == -1) = false := by rw [h1, beq_eq_false_iff_ne]; omega
      unfold Lib.indexByte
      simp only [hc2, h5, Bool.false_eq_true, if_false]
      rw [h1]
      simp
theorem word_len {s w r : List UInt8} (h : word s = some (w, r)) : r.length ≤ s.length := by
  unfold word at h
  split at h
  · have h1 := (qs_len s.tail.length s.tail [] w r (Nat.le_refl _) h).2
    have h2 : s.tail.length ≤ s.length := by simp
    omega
  · split at h
    · cases h
    · simp only [Option.some.injEq, Prod.mk.injEq] at h
      rw [← h.2]
      exact dw_len _ _
theorem phr_len : ∀ (f : Nat) (ws : List (List UInt8)) (s : List UInt8) (ws' : List (List UInt8)) (t : List UInt8), phr f ws s = some (some (ws', t)) → t.length ≤ s.length
  | 0, ws, s, ws', t, h => by cases h
  | f + 1, ws, s, ws', t, h => by
    have h2 : (if s.head? = some 60 then some (some (ws, s)) else match word s with
      | none => some none
      | some (x, r) => phr f (ws ++ [x]) (blanksP r)) = some (some (ws', t)) := h
    split at h2
    · simp only [Option.some.injEq, Prod.mk.injEq] at h2
      rw [h2.2]; exact Nat.le_refl _
    · cases hw : word s with
      | none => rw [hw] at h2; cases h2
      | some q =>
        obtain ⟨x, r⟩ := q
        rw [hw] at h2
        have h3 := phr_len f _ _ _ _ h2
        have h4 := word_len hw
        have h5 := blanks_len r
        omega
def Ascii (s : List UInt8) : Prop := ∀ c ∈ s, c.toNat < 128
/-- What one gives. -/
def OneOk (a : Ad) (ok : Bool) (t : List UInt8) : Option (Ad × List UInt8) → Prop
  | some (a', t') => a = a' ∧ ok = true ∧ t = t'
  | none => ok = false
end Ad

theorem index_any (r : List UInt8) (w : World) (ha : Ascii r) (hl : r.length ≤ 1000000) :
    Calls Tryd.prog 26 #[.string (str (r ++ [44])), .string (str [44, 32, 9])] w fun e w' => e = .returned (.int .i64 ((r.takeWhile fun c => !isCut c).length : Nat)) ∧ Below w.heap.size w w' := by
  refine (Tryd.strings_IndexAny_laid (str (r ++ [44])) (str [44, 32, 9]) w (by rw [str_size]; simp; omega) (by decide) ?_ ?_).mono ?_
  · intro j c hj
    have hm : c ∈ r ++ [44] := List.mem_of_getElem? hj
    rcases List.mem_append.1 hm with h | h
    · exact ha c h
    · simp at h; subst h; decide
  · intro j c hj
    have hm : c ∈ ([44, 32, 9] : List UInt8) := List.mem_of_getElem? hj
    simp at hm
    rcases hm with rfl | rfl | rfl <;> decide
  · rintro e w' ⟨rfl, hb⟩
    refine ⟨?_, hb⟩
    rw [← any_eq]
    rfl
theorem byte_any (t : List UInt8) (w : World) : Calls Tryd.prog 28 #[.string (str t), .int .u8 62] w fun e w' => e = .returned (.int .i64 (Lib.indexByte t 62)) ∧ w = w' := by
  refine (Tryd.strings_IndexByte (str t) 62 w).mono ?_
  rintro e w' ⟨rfl, rfl⟩
  exact ⟨rfl, rfl⟩

theorem Only.setNew {b k j : Nat} {w w' : World} {v : Value} (h : Only b w w') (hk : w.heap.size ≤ k) (hb : b ≤ k) : Only b w (w'.setCell ⟨k, j, none⟩ v) :=
  ⟨h.low.setCell (p := ⟨k, j, none⟩) hb v, fun i h1 h2 => (Below.heap_setCell w' ⟨k, j, none⟩ v i (by simp; omega)).trans (h.high i h1 h2)⟩
theorem Only.alloc {b : Nat} {w w' : World} (h : Only b w w') (hb : b ≤ w'.heap.size) (o : Obj) : Only b w (w'.alloc o) := h.trans (Only.of ((Below.refl _ _).alloc (Nat.le_refl _) o) hb)
theorem Only.drew {b : Nat} {w w' : World} (h : Only b w w') : Only b w w'.drew := ⟨⟨h.low.os, h.low.tape, h.low.output, h.low.size, h.low.block⟩, h.high⟩
theorem RdAt.other {w : World} {b : Nat} {s : List UInt8} (h : RdAt w b s) {k j : Nat} (hk : b ≠ k) (v : Value) : RdAt (w.setCell ⟨k, j, none⟩ v) b s := (Below.heap_setCell w ⟨k, j, none⟩ v b hk).trans h
theorem RdAt.alloc {w : World} {b : Nat} {s : List UInt8} (h : RdAt w b s) (o : Obj) : RdAt (w.alloc o) b s := h.below ((Below.refl _ _).alloc (Nat.le_refl _) o)
theorem AdAt.alloc {w : World} {b : Nat} {a : Ad} (h : AdAt w b a) (o : Obj) : AdAt (w.alloc o) b a := h.below ((Below.refl _ _).alloc (Nat.le_refl _) o)
theorem AdAt.drew {w : World} {b : Nat} {a : Ad} (h : AdAt w b a) : AdAt w.drew b a := h
theorem AdAt.lt {w : World} {b : Nat} {a : Ad} (h : AdAt w b a) : b < w.heap.size := lt_of_block h

set_option maxHeartbeats 4000000 in
theorem one_any (F b : Nat) (s : List UInt8) (w : World) (O : Option (Ad × List UInt8)) (hO : one F s = some O) (h : RdAt w b s) (hG : GoodA w) (hb0 : 0 < b) (ha : Ascii s) (hF : F ≤ 1000000) (hs : s.length ≤ 1000000) :
    Calls Tryd.prog 17 #[.pointer (some ⟨b, 0, none⟩)] w fun e w' => ∃ a ok t, e = .returned (.tuple #[adV a, .bool ok]) ∧ RdAt w' b t ∧ Only b w w' ∧ OneOk a ok t O := by
  have hb := h.lt
  obtain ⟨r, hr⟩ : ∃ r, r = blanksP s := ⟨_, rfl⟩
  have hrl : r.length ≤ 1000000 := by rw [hr]; exact Nat.le_trans (blanks_len s) hs
  have hra : Ascii r := fun c hc => ha c (by rw [hr] at hc; exact (List.dropWhile_sublist _).subset hc)
  obtain ⟨P, hP⟩ : ∃ P, P = r.takeWhile fun c => !isCut c := ⟨_, rfl⟩
  obtain ⟨D, hD⟩ : ∃ D, D = r.dropWhile fun c => !isCut c := ⟨_, rfl⟩
  have htw := take_tw (fun c => !isCut c) r
  rw [← hP, ← hD] at htw
  have hPl : P.length ≤ r.length := by rw [hP]; exact tw_len _ _
  have hia := fun W => index_any r W hra hrl
  rw [← hP] at hia
  obtain ⟨⟨pn, pl, pd⟩, E, hE⟩ : ∃ a E, parseP P = (a, E) := ⟨_, _, rfl⟩
  have hpa := fun W g => parse_any P W g (by omega)
  rw [hE] at hpa
  dsimp only [adV] at hpa
  have hone : (if E = 0 then some (some ((pn, pl, pd), blanksP D)) else match phr F [] r with
    | none => none
    | some none => some none
    | some (some (ws, t)) => if (62 : UInt8) ∈ t ∧ ws ≠ [] then
        if (pathP (t.takeWhile (fun c => c != 62) ++ [62])).2 = 0 ∧ (pathP (t.takeWhile (fun c => c != 62) ++ [62])).1.2.1 ≠ [] then some (some ((Lib.join ws [32], (pathP (t.takeWhile (fun c => c != 62) ++ [62])).1.2), blanksP (t.dropWhile (fun c => c != 62)).tail)) else some none
      else some none) = some O := by
    rw [← hO]
    unfold one
    rw [← hr]
    dsimp only
    rw [← hP, ← hD, hE]
    first | rfl | (dsimp only; rfl)
  have hsz := str_size r
  have hbl := fun W g => blanks_any b s W g
  rw [← hr] at hbl
  have R0 := hid (h.alloc (.cells #[.string (str []), .string (str []), .string (str [])] 31))
  have K0 := hid (AdAt.new w ([], [], []))
  have O0 := hid ((Only.refl b w).alloc (Nat.le_of_lt hb) (.cells #[.string (str []), .string (str []), .string (str [])] 31))
  have HONE := hid hone
  have HG := hid hG
  have x1 := str_upto r P.length
  have x2 := str_from r P.length r.length rfl
  rw [htw.1] at x1
  rw [htw.2] at x2
  have hsum : str r ++ { data := #[44] } = str (r ++ [44]) := str_append r [44]
  clear hO h hG hP hD htw hE hone hr
  by_cases hE0 : E = 0
  · subst hE0
    have ho := HONE.out
    rw [if_pos rfl] at ho
    obtain rfl : some ((pn, pl, pd), blanksP D) = O := by simpa using ho
    clear ho HONE
    have tok0 : Tk 0 := ⟨⟩
    have hbl2 := fun W g => blanks_any b D W g
    go_enter Tryd.func17, Tryd.ntmps17
    go_wp2_with (first
      | (go_at_call 25; have t_ : Tk 0 := ‹Tk 0›; refine (hbl _ R0.out).mono ?_; rintro e w1 ⟨rfl, r1, o1⟩; have c1 := r1.c; have R1 := hid r1; have K1 := hid (o1.ad K0.out (by omega)); have O1 := hid (O0.out.trans o1); clear r1 o1; clear t_; clear tok0; have tok1 : Tk 1 := ⟨⟩)
      | (go_at_call 26; refine (hia _).mono ?_; rintro e w2 ⟨rfl, d2⟩; have r2 := R1.out.below d2; have c2 := r2.c; have f2 := r2.free; have R2 := hid r2; have K2 := hid (K1.out.below d2); have O2 := hid (O1.out.trans (Only.of d2 (Nat.le_of_lt R1.out.lt))); clear r2 d2)
      | (go_at_call 9; refine (hpa _ (O2.out.good HG.out hb0)).mono ?_; rintro e w3 ⟨rfl, d3⟩; have r3 := R2.out.below d3; have c3 := r3.c; have f3 := r3.free; have R3 := hid r3; have K3 := hid (K2.out.below d3); have O3 := hid (O2.out.trans (Only.of d3 (Nat.le_of_lt R2.out.lt))); have r4 := RdAt.alloc r3 (.cells #[.string (str pn), .string (str pl), .string (str pd)] 31); have c4 := r4.c; have f4 := r4.free; have R4 := hid r4; have K4 := hid (K3.out.alloc (.cells #[.string (str pn), .string (str pl), .string (str pd)] 31)); have A4 := hid (AdAt.new w3 (pn, pl, pd)); have O4 := hid (O3.out.alloc (Nat.le_of_lt R3.out.lt) (.cells #[.string (str pn), .string (str pl), .string (str pd)] 31)); have N3 := hid (Nat.lt_of_lt_of_le K3.out.lt (Nat.le_refl _)); clear r3 r4 d3)
      | (go_at_call 25; have t_ : Tk 1 := ‹Tk 1›; refine (hbl2 _ (R4.out.set D)).mono ?_; rintro e w6 ⟨rfl, r6, o6⟩; have k6 := o6.ad (K4.out.other (by omega) _) (by omega); have a6 := o6.ad (A4.out.other (by have := R3.out.lt; omega) _) (by have := R3.out.lt; omega); have O6 := hid ((O4.out.trans (Only.set _ _ _ _)).trans o6); have R6 := hid r6; have K6 := hid k6; have A6 := hid a6; have x0 := a6.c0; have x3 := a6.c1; have x4 := a6.c2; have z0 := k6.free 0; have z1 := k6.free 1; have z2 := k6.free 2; have y0 := k6.c0; have y1 := k6.c1; have y2 := k6.c2; clear r6 o6 k6 a6; clear t_; clear tok1; have tok2 : Tk 2 := ⟨⟩))
    refine bodyPost_ret (v := .tuple #[.agg #[.string (str pn), .string (str pl), .string (str pd)], .bool true]) (by first | (simp [results, Tryd.results17, go_sem, y0, y1, y2]; done) | (simp [results, Tryd.results17, go_sem, y0, y1, y2]; rfl)) rfl ⟨(pn, pl, pd), true, blanksP D, rfl, ?_, ?_, rfl, rfl, rfl⟩
    · exact ((R6.out.other (by omega) _).other (by omega) _).other (by omega) _
    · exact ((O6.out.setNew (Nat.le_refl _) (Nat.le_of_lt hb)).setNew (Nat.le_refl _) (Nat.le_of_lt hb)).setNew (Nat.le_refl _) (Nat.le_of_lt hb)
  · -- SECOND WAY
    have eE : (E == 0) = false := by simpa using hE0
    have ho := HONE.out
    rw [if_neg hE0] at ho
    clear HONE hE0
    cases hph : phr F [] r with
    | none => rw [hph] at ho; cases ho
    | some Q =>
    rw [hph] at ho
    have tok0 : Tk 0 := ⟨⟩
    have hphr := fun W h => phrase_any F b r W Q hph h hF hrl
    have hpl := fun ws t (h : Q = some (ws, t)) => phr_len F [] r ws t (by rw [← h]; exact hph)
    clear hph
    cases Q with
    | none =>
      obtain rfl : none = O := by simpa using ho
      clear ho hpl
      go_enter Tryd.func17, Tryd.ntmps17
      go_wp2_with (first
        | (go_at_call 25; have t_ : Tk 0 := ‹Tk 0›; refine (hbl _ R0.out).mono ?_; rintro e w1 ⟨rfl, r1, o1⟩; have c1 := r1.c; have R1 := hid r1; have K1 := hid (o1.ad K0.out (by omega)); have O1 := hid (O0.out.trans o1); clear r1 o1; clear t_; clear tok0; have tok1 : Tk 1 := ⟨⟩)
        | (go_at_call 26; refine (hia _).mono ?_; rintro e w2 ⟨rfl, d2⟩; have r2 := R1.out.below d2; have c2 := r2.c; have R2 := hid r2; have K2 := hid (K1.out.below d2); have O2 := hid (O1.out.trans (Only.of d2 (Nat.le_of_lt R1.out.lt))); clear r2 d2)
        | (go_at_call 9; refine (hpa _ (O2.out.good HG.out hb0)).mono ?_; rintro e w3 ⟨rfl, d3⟩; have r3 := R2.out.below d3; have R3 := hid r3; have K3 := hid (K2.out.below d3); have O3 := hid (O2.out.trans (Only.of d3 (Nat.le_of_lt R2.out.lt))); have R4 := hid (RdAt.alloc r3 (.cells #[.string (str pn), .string (str pl), .string (str pd)] 31)); have K4 := hid (K3.out.alloc (.cells #[.string (str pn), .string (str pl), .string (str pd)] 31)); have O4 := hid (O3.out.alloc (Nat.le_of_lt R3.out.lt) (.cells #[.string (str pn), .string (str pl), .string (str pd)] 31)); clear r3 d3)
        | (go_at_call 27; refine (hphr _ R4.out).mono ?_; rintro e w5 ⟨x, ok, t, rfl, r5, o5, hok⟩; obtain rfl : ok = false := hok; have hby := fun W => byte_any t W; have c5 := r5.c; have f5 := r5.free; have k5 := o5.ad K4.out (by omega); have R5 := hid r5; have K5 := hid k5; have O5 := hid (O4.out.trans o5); have z0 := k5.free 0; have z1 := k5.free 1; have z2 := k5.free 2; have y0 := k5.c0; have y1 := k5.c1; have y2 := k5.c2; clear r5 o5 k5)
        | (go_at_call 28; refine (hby _).mono ?_; rintro e w6 ⟨rfl, rfl⟩))
      refine bodyPost_ret (v := .tuple #[.agg #[.string (str []), .string (str []), .string (str [])], .bool false]) (by first | (simp [results, Tryd.results17, go_sem, y0, y1, y2]; done) | (simp [results, Tryd.results17, go_sem, y0, y1, y2]; rfl)) rfl ⟨([], [], []), false, _, rfl, ((R5.out.other (by omega) _).other (by omega) _).other (by omega) _, ((O5.out.setNew (Nat.le_refl _) (Nat.le_of_lt hb)).setNew (Nat.le_refl _) (Nat.le_of_lt hb)).setNew (Nat.le_refl _) (Nat.le_of_lt hb), rfl⟩
    | some q =>
      obtain ⟨ws, t'⟩ := q
      dsimp only at ho
      have ht'l := hpl ws t' rfl
      clear hpl
      by_cases hws : ws = []
      · rw [if_neg (by intro h; exact h.2 hws)] at ho
        obtain rfl : none = O := by simpa using ho
        have HDEC : Hid (decide (ws ≠ []) = false) := hid (by rw [hws]; rfl)
        clear ho hws
        go_enter Tryd.func17, Tryd.ntmps17
        go_wp2_with (first
          | (go_at_call 25; have t_ : Tk 0 := ‹Tk 0›; refine (hbl _ R0.out).mono ?_; rintro e w1 ⟨rfl, r1, o1⟩; have c1 := r1.c; have R1 := hid r1; have K1 := hid (o1.ad K0.out (by omega)); have O1 := hid (O0.out.trans o1); clear r1 o1; clear t_; clear tok0; have tok1 : Tk 1 := ⟨⟩)
          | (go_at_call 26; refine (hia _).mono ?_; rintro e w2 ⟨rfl, d2⟩; have r2 := R1.out.below d2; have c2 := r2.c; have R2 := hid r2; have K2 := hid (K1.out.below d2); have O2 := hid (O1.out.trans (Only.of d2 (Nat.le_of_lt R1.out.lt))); clear r2 d2)
          | (go_at_call 9; refine (hpa _ (O2.out.good HG.out hb0)).mono ?_; rintro e w3 ⟨rfl, d3⟩; have r3 := R2.out.below d3; have R3 := hid r3; have K3 := hid (K2.out.below d3); have O3 := hid (O2.out.trans (Only.of d3 (Nat.le_of_lt R2.out.lt))); have R4 := hid (RdAt.alloc r3 (.cells #[.string (str pn), .string (str pl), .string (str pd)] 31)); have K4 := hid (K3.out.alloc (.cells #[.string (str pn), .string (str pl), .string (str pd)] 31)); have O4 := hid (O3.out.alloc (Nat.le_of_lt R3.out.lt) (.cells #[.string (str pn), .string (str pl), .string (str pd)] 31)); clear r3 d3)
          | (go_at_call 27; refine (hphr _ R4.out).mono ?_; rintro e w5 ⟨x, ok, t, rfl, r5, o5, hok⟩; obtain ⟨-, hok, rfl⟩ := hok; obtain rfl : ok = false := hok.trans HDEC.out; clear hok; have hby := fun W => byte_any t W; have c5 := r5.c; have f5 := r5.free; have k5 := o5.ad K4.out (by omega); have R5 := hid r5; have K5 := hid k5; have O5 := hid (O4.out.trans o5); have z0 := k5.free 0; have z1 := k5.free 1; have z2 := k5.free 2; have y0 := k5.c0; have y1 := k5.c1; have y2 := k5.c2; clear r5 o5 k5)
          | (go_at_call 28; refine (hby _).mono ?_; rintro e w6 ⟨rfl, rfl⟩))
        refine bodyPost_ret (v := .tuple #[.agg #[.string (str []), .string (str []), .string (str [])], .bool false]) (by first | (simp [results, Tryd.results17, go_sem, y0, y1, y2]; done) | (simp [results, Tryd.results17, go_sem, y0, y1, y2]; rfl)) rfl ⟨([], [], []), false, _, rfl, ((R5.out.other (by omega) _).other (by omega) _).other (by omega) _, ((O5.out.setNew (Nat.le_refl _) (Nat.le_of_lt hb)).setNew (Nat.le_refl _) (Nat.le_of_lt hb)).setNew (Nat.le_refl _) (Nat.le_of_lt hb), rfl⟩
      · have HDEC : Hid (decide (ws ≠ []) = true) := hid (decide_eq_true hws)
        by_cases hm : (62 : UInt8) ∈ t'
        · rw [if_pos ⟨hm, hws⟩] at ho
          obtain ⟨g1, g2, g3, g4⟩ := gt_eq t' hm
          obtain ⟨m, hm2⟩ : ∃ m, m = (t'.takeWhile fun c => c != 62).length := ⟨_, rfl⟩
          rw [← hm2] at g1 g2 g3 g4
          obtain ⟨⟨qn, ql, qd⟩, E2, hq⟩ : ∃ a E, pathP ((t'.takeWhile fun c => c != 62) ++ [62]) = (a, E) := ⟨_, _, rfl⟩
          rw [hq] at ho
          dsimp only at ho
          obtain ⟨rest, hrest⟩ : ∃ rest, rest = (t'.dropWhile fun c => c != 62).tail := ⟨_, rfl⟩
          rw [← hrest] at ho g3
          have x3 := str_upto t' (m + 1)
          rw [g2] at x3
          have x4 := str_from t' (m + 1) t'.length rfl
          rw [g3] at x4
          have hby := fun W => byte_any t' W
          rw [g1] at hby
          have hsz2 := str_size t'
          have hpt := fun W g hl => path_any ((t'.takeWhile fun c => c != 62) ++ [62]) W g hl
          rw [hq] at hpt
          dsimp only [adV] at hpt
          obtain ⟨Z, hZ⟩ : ∃ Z, Z = (t'.takeWhile fun c => c != 62) ++ [62] := ⟨_, rfl⟩
          rw [← hZ] at hpt x3
          have hZl : Z.length = m + 1 := by rw [hZ, List.length_append, ← hm2]; rfl
          have hbl2 := fun W g => blanks_any b rest W g
          clear g1 g2 g3 hm hm2 hq hrest hZ hws
          have HOO := hid ho
          clear ho
          have hml : m + 1 ≤ 2147483648 := by omega
          clear ht'l
          go_enter Tryd.func17, Tryd.ntmps17
          go_wp2_with (first
            | (go_at_call 25; have t_ : Tk 0 := ‹Tk 0›; refine (hbl _ R0.out).mono ?_; rintro e w1 ⟨rfl, r1, o1⟩; have c1 := r1.c; have R1 := hid r1; have K1 := hid (o1.ad K0.out (by omega)); have O1 := hid (O0.out.trans o1); clear r1 o1; clear t_; clear tok0; have tok1 : Tk 1 := ⟨⟩)
            | (go_at_call 26; refine (hia _).mono ?_; rintro e w2 ⟨rfl, d2⟩; have r2 := R1.out.below d2; have c2 := r2.c; have R2 := hid r2; have K2 := hid (K1.out.below d2); have O2 := hid (O1.out.trans (Only.of d2 (Nat.le_of_lt R1.out.lt))); clear r2 d2)
            | (go_at_call 9; refine (hpa _ (O2.out.good HG.out hb0)).mono ?_; rintro e w3 ⟨rfl, d3⟩; have r3 := R2.out.below d3; have R3 := hid r3; have K3 := hid (K2.out.below d3); have O3 := hid (O2.out.trans (Only.of d3 (Nat.le_of_lt R2.out.lt))); have R4 := hid (RdAt.alloc r3 (.cells #[.string (str pn), .string (str pl), .string (str pd)] 31)); have K4 := hid (K3.out.alloc (.cells #[.string (str pn), .string (str pl), .string (str pd)] 31)); have O4 := hid (O3.out.alloc (Nat.le_of_lt R3.out.lt) (.cells #[.string (str pn), .string (str pl), .string (str pd)] 31)); clear r3 d3)
            | (go_at_call 27; refine (hphr _ R4.out).mono ?_; rintro e w5 ⟨x, ok, t, rfl, r5, o5, hok⟩; obtain ⟨hx5, hok, rfl⟩ := hok; have HX := hid hx5; obtain rfl : ok = true := hok.trans HDEC.out; clear hok hx5; have c5 := r5.c; have f5 := r5.free; have k5 := o5.ad K4.out (by omega); have R5 := hid r5; have K5 := hid k5; have O5 := hid (O4.out.trans o5); have z0 := k5.free 0; have z1 := k5.free 1; have z2 := k5.free 2; have y0 := k5.c0; have y1 := k5.c1; have y2 := k5.c2; clear r5 o5 k5)
            | (go_at_call 28; refine (hby _).mono ?_; rintro e w6 ⟨rfl, rfl⟩)
            | (go_at_call 11; refine (hpt _ (O5.out.good HG.out hb0) (by omega)).mono ?_; rintro e w7 ⟨rfl, d7⟩; have r7 := R5.out.below d7; have k7 := K5.out.below d7; have O7 := hid (O5.out.trans (Only.of d7 (Nat.le_of_lt R5.out.lt))); have L7 := hid r7.lt; have r8 := RdAt.alloc r7 (.cells #[.string (str qn), .string (str ql), .string (str qd)] 31); have k8 := k7.alloc (.cells #[.string (str qn), .string (str ql), .string (str qd)] 31); have N7 := hid k7.lt; have c8 := r8.c; have f8 := r8.free; have R8 := hid r8; have K8 := hid k8; have A8 := hid (AdAt.new w7 (qn, ql, qd)); have O8 := hid (O7.out.alloc (Nat.le_of_lt L7.out) (.cells #[.string (str qn), .string (str ql), .string (str qd)] 31)); clear r7 k7 d7 r8 k8)
            | (go_at_call 25; have t_ : Tk 1 := ‹Tk 1›; refine (hbl2 _ (R8.out.set rest)).mono ?_; rintro e w9 ⟨rfl, r9, o9⟩; have k9 := o9.ad (K8.out.other (by omega) _) (by omega); have a9 := o9.ad (A8.out.other (by have := L7.out; omega) _) (by have := L7.out; omega); have O9 := hid ((O8.out.trans (Only.set _ _ _ _)).trans o9); have R9 := hid r9; have K9 := hid k9; have A9 := hid a9; have p0 := a9.c0; have p1 := a9.c1; have p2 := a9.c2; have q0 := a9.free 0; have v0 := k9.free 0; have v1 := k9.free 1; have v2 := k9.free 2; have u0 := k9.c0; have u1 := k9.c1; have u2 := k9.c2; clear r9 o9 k9 a9; clear t_; clear tok1; have tok2 : Tk 2 := ⟨⟩))
          have nk : w7.heap.size ≠ w.heap.size := by have := N7.out; omega
          have nk2 : w.heap.size ≠ w7.heap.size := fun h => nk h.symm
          have AX := hid (A9.out.set0 x)
          by_cases hE2 : E2 = 0
          · subst hE2
            by_cases hql : ql = []
            · subst hql
              have ho := HOO.out
              rw [if_neg (by intro h; exact h.2 rfl)] at ho
              obtain rfl : none = O := by simpa using ho
              clear ho HOO
              refine wp_region_held_drew (S := (fun w' => w'.cell? ⟨w7.heap.size, 0, none⟩ = some (.string (str x)) ∧ w'.cell? ⟨w7.heap.size, 1, none⟩ = some (.string (str [])) ∧ w'.cell? ⟨w7.heap.size, 2, none⟩ = some (.string (str qd)))) (by kernel_rfl) ⟨AX.out.c0, AX.out.c1, AX.out.c2⟩ (fun hHeld => ?_)
              refine wpAnyH_take (i := 0) (oi := _) (v := ?vj0) rfl (by kernel_rfl) (by kernel_rfl) (by kernel_rfl) (fun _ _ _ h => h) (Or.inl ⟨by rfl, ?yj0⟩) (by assumption) ?rj0
              case yj0 => (intro w hSw; (try dsimp only at hSw); go_simp; try with_reducible rfl)
              try simp only [List.getElem_toArray, List.getElem_cons_zero, List.getElem_cons_succ, Act.put, List.setIfInBounds_toArray, List.set_cons_zero, List.set_cons_succ]
              refine wpAnyH_take (i := 1) (oi := _) (v := ?vj1) rfl (by kernel_rfl) (by kernel_rfl) (by kernel_rfl) (fun _ _ _ h => h) (Or.inl ⟨by rfl, ?yj1⟩) (by assumption) ?rj1
              case yj1 => (intro w hSw; (try dsimp only at hSw); go_simp; try with_reducible rfl)
              try simp only [List.getElem_toArray, List.getElem_cons_zero, List.getElem_cons_succ, Act.put, List.setIfInBounds_toArray, List.set_cons_zero, List.set_cons_succ]
              refine wpAnyH_take (i := 2) (oi := _) (v := ?vj2) rfl (by kernel_rfl) (by kernel_rfl) (by kernel_rfl) (fun _ _ _ h => h) (Or.inl ⟨by rfl, ?yj2⟩) (by assumption) ?rj2
              case yj2 => (intro w hSw; (try dsimp only at hSw); go_simp; try with_reducible rfl)
              try simp only [List.getElem_toArray, List.getElem_cons_zero, List.getElem_cons_succ, Act.put, List.setIfInBounds_toArray, List.set_cons_zero, List.set_cons_succ]
              refine wpAnyH_take (i := 3) (oi := _) (v := ?vj3) rfl (by kernel_rfl) (by kernel_rfl) (by kernel_rfl) (fun _ _ _ h => h) (Or.inl ⟨by rfl, ?yj3⟩) (by assumption) ?rj3
              case yj3 => (intro w hSw; (try dsimp only at hSw); go_simp; try with_reducible rfl)
              try simp only [List.getElem_toArray, List.getElem_cons_zero, List.getElem_cons_succ, Act.put, List.setIfInBounds_toArray, List.set_cons_zero, List.set_cons_succ]
              refine wpAnyH_take (i := 4) (oi := _) (v := ?vj4) rfl (by kernel_rfl) (by kernel_rfl) (by kernel_rfl) (fun _ _ _ h => h) (Or.inl ⟨by rfl, ?yj4⟩) (by assumption) ?rj4
              case yj4 => (intro w hSw; (try dsimp only at hSw); go_simp; try with_reducible rfl)
              try simp only [List.getElem_toArray, List.getElem_cons_zero, List.getElem_cons_succ, Act.put, List.setIfInBounds_toArray, List.set_cons_zero, List.set_cons_succ]
              refine wpAnyH_take (i := 5) (oi := _) (v := ?vj5) rfl (by kernel_rfl) (by kernel_rfl) (by kernel_rfl) (fun _ _ _ h => h) (Or.inl ⟨by rfl, ?yj5⟩) (by assumption) ?rj5
              case yj5 => (intro w hSw; (try dsimp only at hSw); go_simp; try with_reducible rfl)
              try simp only [List.getElem_toArray, List.getElem_cons_zero, List.getElem_cons_succ, Act.put, List.setIfInBounds_toArray, List.set_cons_zero, List.set_cons_succ]
              refine wpAnyH_take (i := 6) (oi := _) (v := ?vj6) rfl (by kernel_rfl) (by kernel_rfl) (by kernel_rfl) (fun _ _ _ h => h) (Or.inl ⟨by rfl, ?yj6⟩) (by assumption) ?rj6
              case yj6 => (intro w hSw; (try dsimp only at hSw); go_simp; try with_reducible rfl)
              try simp only [List.getElem_toArray, List.getElem_cons_zero, List.getElem_cons_succ, Act.put, List.setIfInBounds_toArray, List.set_cons_zero, List.set_cons_succ]
              refine wpAnyH_take (i := 7) (oi := _) (v := ?vj7) rfl (by kernel_rfl) (by kernel_rfl) (by kernel_rfl) (fun _ _ _ h => h) (Or.inl ⟨by rfl, ?yj7⟩) (by assumption) ?rj7
              case yj7 => (intro w hSw; (try dsimp only at hSw); go_simp; try with_reducible rfl)
              try simp only [List.getElem_toArray, List.getElem_cons_zero, List.getElem_cons_succ, Act.put, List.setIfInBounds_toArray, List.set_cons_zero, List.set_cons_succ]
              refine wpAnyH_ready (rs := [8]) (by kernel_rfl) (by simp) ?_
              refine AllReadyH.cons (o := _) rfl (fun K hK => ?_) AllReadyH.nil
              go_simp
              refine hK.out _ _ ⟨(((AX.out.other nk _).other nk _).other nk _).drew.c0, (((AX.out.other nk _).other nk _).other nk _).drew.c1, (((AX.out.other nk _).other nk _).other nk _).drew.c2⟩ (fun hHeld2 => ?_)
              clear hK K hHeld
              try simp only [List.getElem_toArray, List.getElem_cons_zero, List.getElem_cons_succ, Act.put, List.setIfInBounds_toArray, List.set_cons_zero, List.set_cons_succ]
              refine wpAnyH_take (i := 9) (oi := _) (v := ?vj9) rfl (by kernel_rfl) (by kernel_rfl) (by kernel_rfl) (fun _ _ _ h => h) (Or.inl ⟨by rfl, ?yj9⟩) (by assumption) ?rj9
              case yj9 => (intro w hSw; (try dsimp only at hSw); go_simp; try with_reducible rfl)
              try simp only [List.getElem_toArray, List.getElem_cons_zero, List.getElem_cons_succ, Act.put, List.setIfInBounds_toArray, List.set_cons_zero, List.set_cons_succ]
              refine wpAnyH_done (by kernel_rfl) ?_ _
              go_wp2_with fail
              refine bodyPost_ret (v := .tuple #[.agg #[.string (str x), .string (str []), .string (str qd)], .bool false]) (by first | (simp [results, Tryd.results17, go_sem, u0, u1, u2]; done) | (simp [results, Tryd.results17, go_sem, u0, u1, u2]; rfl)) rfl ⟨(x, [], qd), false, _, rfl, ((((R9.out.other (by have := L7.out; omega) _).other (by omega) _).other (by omega) _).other (by omega) _), ((((O9.out.setNew (by have := N7.out; omega) (by have := N7.out; omega)).setNew (Nat.le_refl _) (Nat.le_of_lt hb)).setNew (Nat.le_refl _) (Nat.le_of_lt hb)).setNew (Nat.le_refl _) (Nat.le_of_lt hb)).drew, rfl⟩
            · have eq1 : (ql == []) = false := by simpa using hql
              have eq2 : (ql != []) = true := by simpa using hql
              have ho := HOO.out
              rw [if_pos ⟨rfl, hql⟩] at ho
              obtain rfl : some ((Lib.join ws [32], ql, qd), blanksP rest) = O := by simpa using ho
              clear ho HOO hql
              refine wp_region_held_drew (S := (fun w' => w'.cell? ⟨w7.heap.size, 0, none⟩ = some (.string (str x)) ∧ w'.cell? ⟨w7.heap.size, 1, none⟩ = some (.string (str ql)) ∧ w'.cell? ⟨w7.heap.size, 2, none⟩ = some (.string (str qd)))) (by kernel_rfl) ⟨AX.out.c0, AX.out.c1, AX.out.c2⟩ (fun hHeld => ?_)
              refine wpAnyH_take (i := 0) (oi := _) (v := ?vi0) rfl (by kernel_rfl) (by kernel_rfl) (by kernel_rfl) (fun _ _ _ h => h) (Or.inl ⟨by rfl, ?yi0⟩) (by assumption) ?ri0
              case yi0 => (intro w hSw; (try dsimp only at hSw); go_simp; try with_reducible rfl)
              try simp only [List.getElem_toArray, List.getElem_cons_zero, List.getElem_cons_succ, Act.put, List.setIfInBounds_toArray, List.set_cons_zero, List.set_cons_succ]
              refine wpAnyH_take (i := 1) (oi := _) (v := ?vi1) rfl (by kernel_rfl) (by kernel_rfl) (by kernel_rfl) (fun _ _ _ h => h) (Or.inl ⟨by rfl, ?yi1⟩) (by assumption) ?ri1
              case yi1 => (intro w hSw; (try dsimp only at hSw); go_simp; try with_reducible rfl)
              try simp only [List.getElem_toArray, List.getElem_cons_zero, List.getElem_cons_succ, Act.put, List.setIfInBounds_toArray, List.set_cons_zero, List.set_cons_succ]
              refine wpAnyH_take (i := 2) (oi := _) (v := ?vi2) rfl (by kernel_rfl) (by kernel_rfl) (by kernel_rfl) (fun _ _ _ h => h) (Or.inl ⟨by rfl, ?yi2⟩) (by assumption) ?ri2
              case yi2 => (intro w hSw; (try dsimp only at hSw); go_simp; try with_reducible rfl)
              try simp only [List.getElem_toArray, List.getElem_cons_zero, List.getElem_cons_succ, Act.put, List.setIfInBounds_toArray, List.set_cons_zero, List.set_cons_succ]
              refine wpAnyH_take (i := 3) (oi := _) (v := ?vi3) rfl (by kernel_rfl) (by kernel_rfl) (by kernel_rfl) (fun _ _ _ h => h) (Or.inl ⟨by rfl, ?yi3⟩) (by assumption) ?ri3
              case yi3 => (intro w hSw; (try dsimp only at hSw); go_simp; try with_reducible rfl)
              try simp only [List.getElem_toArray, List.getElem_cons_zero, List.getElem_cons_succ, Act.put, List.setIfInBounds_toArray, List.set_cons_zero, List.set_cons_succ]
              refine wpAnyH_take (i := 4) (oi := _) (v := ?vi4) rfl (by kernel_rfl) (by kernel_rfl) (by kernel_rfl) (fun _ _ _ h => h) (Or.inl ⟨by rfl, ?yi4⟩) (by assumption) ?ri4
              case yi4 => (intro w hSw; (try dsimp only at hSw); go_simp; try with_reducible rfl)
              try simp only [List.getElem_toArray, List.getElem_cons_zero, List.getElem_cons_succ, Act.put, List.setIfInBounds_toArray, List.set_cons_zero, List.set_cons_succ]
              refine wpAnyH_take (i := 5) (oi := _) (v := ?vi5) rfl (by kernel_rfl) (by kernel_rfl) (by kernel_rfl) (fun _ _ _ h => h) (Or.inl ⟨by rfl, ?yi5⟩) (by assumption) ?ri5
              case yi5 => (intro w hSw; (try dsimp only at hSw); go_simp; try with_reducible rfl)
              try simp only [List.getElem_toArray, List.getElem_cons_zero, List.getElem_cons_succ, Act.put, List.setIfInBounds_toArray, List.set_cons_zero, List.set_cons_succ]
              refine wpAnyH_take (i := 6) (oi := _) (v := ?vi6) rfl (by kernel_rfl) (by kernel_rfl) (by kernel_rfl) (fun _ _ _ h => h) (Or.inl ⟨by rfl, ?yi6⟩) (by assumption) ?ri6
              case yi6 => (intro w hSw; (try dsimp only at hSw); go_simp; try with_reducible rfl)
              try simp only [List.getElem_toArray, List.getElem_cons_zero, List.getElem_cons_succ, Act.put, List.setIfInBounds_toArray, List.set_cons_zero, List.set_cons_succ]
              refine wpAnyH_take (i := 7) (oi := _) (v := ?vi7) rfl (by kernel_rfl) (by kernel_rfl) (by kernel_rfl) (fun _ _ _ h => h) (Or.inl ⟨by rfl, ?yi7⟩) (by assumption) ?ri7
              case yi7 => (intro w hSw; (try dsimp only at hSw); go_simp; try with_reducible rfl)
              try simp only [List.getElem_toArray, List.getElem_cons_zero, List.getElem_cons_succ, Act.put, List.setIfInBounds_toArray, List.set_cons_zero, List.set_cons_succ]
              refine wpAnyH_ready (rs := [8]) (by kernel_rfl) (by simp) ?_
              refine AllReadyH.cons (o := _) rfl (fun K hK => ?_) AllReadyH.nil
              go_simp
              refine hK.out _ _ ⟨(((AX.out.other nk _).other nk _).other nk _).drew.c0, (((AX.out.other nk _).other nk _).other nk _).drew.c1, (((AX.out.other nk _).other nk _).other nk _).drew.c2⟩ (fun hHeld2 => ?_)
              clear hK K hHeld
              try simp only [List.getElem_toArray, List.getElem_cons_zero, List.getElem_cons_succ, Act.put, List.setIfInBounds_toArray, List.set_cons_zero, List.set_cons_succ]
              refine wpAnyH_take (i := 9) (oi := _) (v := ?vi9) rfl (by kernel_rfl) (by kernel_rfl) (by kernel_rfl) (fun _ _ _ h => h) (Or.inl ⟨by rfl, ?yi9⟩) (by assumption) ?ri9
              case yi9 => (intro w hSw; (try dsimp only at hSw); go_simp; try with_reducible rfl)
              try simp only [List.getElem_toArray, List.getElem_cons_zero, List.getElem_cons_succ, Act.put, List.setIfInBounds_toArray, List.set_cons_zero, List.set_cons_succ]
              refine wpAnyH_done (by kernel_rfl) ?_ _
              go_wp2_with fail
              refine bodyPost_ret (v := .tuple #[.agg #[.string (str x), .string (str ql), .string (str qd)], .bool true]) (by first | (simp [results, Tryd.results17, go_sem, u0, u1, u2]; done) | (simp [results, Tryd.results17, go_sem, u0, u1, u2]; rfl)) rfl ⟨(x, ql, qd), true, _, rfl, ((((R9.out.other (by have := L7.out; omega) _).other (by omega) _).other (by omega) _).other (by omega) _), ((((O9.out.setNew (by have := N7.out; omega) (by have := N7.out; omega)).setNew (Nat.le_refl _) (Nat.le_of_lt hb)).setNew (Nat.le_refl _) (Nat.le_of_lt hb)).setNew (Nat.le_refl _) (Nat.le_of_lt hb)).drew, by rw [HX.out], rfl, rfl⟩
          · have eq3 : (E2 == 0) = false := by simpa using hE2
            have ho := HOO.out
            rw [if_neg (by intro h; exact hE2 h.1)] at ho
            obtain rfl : none = O := by simpa using ho
            clear ho HOO hE2
            refine wp_region_held_drew (S := (fun w' => w'.cell? ⟨w7.heap.size, 0, none⟩ = some (.string (str x)) ∧ w'.cell? ⟨w7.heap.size, 1, none⟩ = some (.string (str ql)) ∧ w'.cell? ⟨w7.heap.size, 2, none⟩ = some (.string (str qd)))) (by kernel_rfl) ⟨AX.out.c0, AX.out.c1, AX.out.c2⟩ (fun hHeld => ?_)
            refine wpAnyH_take (i := 0) (oi := _) (v := ?vw0) rfl (by kernel_rfl) (by kernel_rfl) (by kernel_rfl) (fun _ _ _ h => h) (Or.inl ⟨by rfl, ?yw0⟩) (by assumption) ?rw0
            case yw0 => (intro w hSw; (try dsimp only at hSw); go_simp; try with_reducible rfl)
            try simp only [List.getElem_toArray, List.getElem_cons_zero, List.getElem_cons_succ, Act.put, List.setIfInBounds_toArray, List.set_cons_zero, List.set_cons_succ]
            refine wpAnyH_take (i := 1) (oi := _) (v := ?vw1) rfl (by kernel_rfl) (by kernel_rfl) (by kernel_rfl) (fun _ _ _ h => h) (Or.inl ⟨by rfl, ?yw1⟩) (by assumption) ?rw1
            case yw1 => (intro w hSw; (try dsimp only at hSw); go_simp; try with_reducible rfl)
            try simp only [List.getElem_toArray, List.getElem_cons_zero, List.getElem_cons_succ, Act.put, List.setIfInBounds_toArray, List.set_cons_zero, List.set_cons_succ]
            refine wpAnyH_take (i := 2) (oi := _) (v := ?vw2) rfl (by kernel_rfl) (by kernel_rfl) (by kernel_rfl) (fun _ _ _ h => h) (Or.inl ⟨by rfl, ?yw2⟩) (by assumption) ?rw2
            case yw2 => (intro w hSw; (try dsimp only at hSw); go_simp; try with_reducible rfl)
            try simp only [List.getElem_toArray, List.getElem_cons_zero, List.getElem_cons_succ, Act.put, List.setIfInBounds_toArray, List.set_cons_zero, List.set_cons_succ]
            refine wpAnyH_take (i := 3) (oi := _) (v := ?vw3) rfl (by kernel_rfl) (by kernel_rfl) (by kernel_rfl) (fun _ _ _ h => h) (Or.inl ⟨by rfl, ?yw3⟩) (by assumption) ?rw3
            case yw3 => (intro w hSw; (try dsimp only at hSw); go_simp; try with_reducible rfl)
            try simp only [List.getElem_toArray, List.getElem_cons_zero, List.getElem_cons_succ, Act.put, List.setIfInBounds_toArray, List.set_cons_zero, List.set_cons_succ]
            refine wpAnyH_take (i := 4) (oi := _) (v := undef) rfl (by kernel_rfl) (by kernel_rfl) (by kernel_rfl) (fun _ _ _ h => h) (Or.inr ⟨by rfl, rfl⟩) (by assumption) ?_
            try simp only [List.getElem_toArray, List.getElem_cons_zero, List.getElem_cons_succ, Act.put, List.setIfInBounds_toArray, List.set_cons_zero, List.set_cons_succ]
            refine wpAnyH_take (i := 5) (oi := _) (v := undef) rfl (by kernel_rfl) (by kernel_rfl) (by kernel_rfl) (fun _ _ _ h => h) (Or.inr ⟨by rfl, rfl⟩) (by assumption) ?_
            try simp only [List.getElem_toArray, List.getElem_cons_zero, List.getElem_cons_succ, Act.put, List.setIfInBounds_toArray, List.set_cons_zero, List.set_cons_succ]
            refine wpAnyH_take (i := 6) (oi := _) (v := undef) rfl (by kernel_rfl) (by kernel_rfl) (by kernel_rfl) (fun _ _ _ h => h) (Or.inr ⟨by rfl, rfl⟩) (by assumption) ?_
            try simp only [List.getElem_toArray, List.getElem_cons_zero, List.getElem_cons_succ, Act.put, List.setIfInBounds_toArray, List.set_cons_zero, List.set_cons_succ]
            refine wpAnyH_take (i := 7) (oi := _) (v := ?vw7) rfl (by kernel_rfl) (by kernel_rfl) (by kernel_rfl) (fun _ _ _ h => h) (Or.inl ⟨by rfl, ?yw7⟩) (by assumption) ?rw7
            case yw7 => (intro w hSw; (try dsimp only at hSw); go_simp; try with_reducible rfl)
            try simp only [List.getElem_toArray, List.getElem_cons_zero, List.getElem_cons_succ, Act.put, List.setIfInBounds_toArray, List.set_cons_zero, List.set_cons_succ]
            refine wpAnyH_ready (rs := [8]) (by kernel_rfl) (by simp) ?_
            refine AllReadyH.cons (o := _) rfl (fun K hK => ?_) AllReadyH.nil
            go_simp
            refine hK.out _ _ ⟨(((AX.out.other nk _).other nk _).other nk _).drew.c0, (((AX.out.other nk _).other nk _).other nk _).drew.c1, (((AX.out.other nk _).other nk _).other nk _).drew.c2⟩ (fun hHeld2 => ?_)
            clear hK K hHeld
            try simp only [List.getElem_toArray, List.getElem_cons_zero, List.getElem_cons_succ, Act.put, List.setIfInBounds_toArray, List.set_cons_zero, List.set_cons_succ]
            refine wpAnyH_take (i := 9) (oi := _) (v := ?vw9) rfl (by kernel_rfl) (by kernel_rfl) (by kernel_rfl) (fun _ _ _ h => h) (Or.inl ⟨by rfl, ?yw9⟩) (by assumption) ?rw9
            case yw9 => (intro w hSw; (try dsimp only at hSw); go_simp; try with_reducible rfl)
            try simp only [List.getElem_toArray, List.getElem_cons_zero, List.getElem_cons_succ, Act.put, List.setIfInBounds_toArray, List.set_cons_zero, List.set_cons_succ]
            refine wpAnyH_done (by kernel_rfl) ?_ _
            go_wp2_with fail
            refine bodyPost_ret (v := .tuple #[.agg #[.string (str x), .string (str ql), .string (str qd)], .bool false]) (by first | (simp [results, Tryd.results17, go_sem, u0, u1, u2]; done) | (simp [results, Tryd.results17, go_sem, u0, u1, u2]; rfl)) rfl ⟨(x, ql, qd), false, _, rfl, ((((R9.out.other (by have := L7.out; omega) _).other (by omega) _).other (by omega) _).other (by omega) _), ((((O9.out.setNew (by have := N7.out; omega) (by have := N7.out; omega)).setNew (Nat.le_refl _) (Nat.le_of_lt hb)).setNew (Nat.le_refl _) (Nat.le_of_lt hb)).setNew (Nat.le_refl _) (Nat.le_of_lt hb)).drew, rfl⟩
        · rw [if_neg (by intro h; exact hm h.1)] at ho
          obtain rfl : none = O := by simpa using ho
          have hby := fun W => byte_any t' W
          have hidx : Lib.indexByte t' 62 = -1 := by
            rcases indexByte_mem t' 62 with ⟨h1, _⟩ | ⟨_, h2⟩
            · exact absurd h1 hm
            · exact h2
          rw [hidx] at hby
          clear ho hws hm hidx
          go_enter Tryd.func17, Tryd.ntmps17
          go_wp2_with (first
            | (go_at_call 25; have t_ : Tk 0 := ‹Tk 0›; refine (hbl _ R0.out).mono ?_; rintro e w1 ⟨rfl, r1, o1⟩; have c1 := r1.c; have R1 := hid r1; have K1 := hid (o1.ad K0.out (by omega)); have O1 := hid (O0.out.trans o1); clear r1 o1; clear t_; clear tok0; have tok1 : Tk 1 := ⟨⟩)
            | (go_at_call 26; refine (hia _).mono ?_; rintro e w2 ⟨rfl, d2⟩; have r2 := R1.out.below d2; have c2 := r2.c; have R2 := hid r2; have K2 := hid (K1.out.below d2); have O2 := hid (O1.out.trans (Only.of d2 (Nat.le_of_lt R1.out.lt))); clear r2 d2)
            | (go_at_call 9; refine (hpa _ (O2.out.good HG.out hb0)).mono ?_; rintro e w3 ⟨rfl, d3⟩; have r3 := R2.out.below d3; have R3 := hid r3; have K3 := hid (K2.out.below d3); have O3 := hid (O2.out.trans (Only.of d3 (Nat.le_of_lt R2.out.lt))); have R4 := hid (RdAt.alloc r3 (.cells #[.string (str pn), .string (str pl), .string (str pd)] 31)); have K4 := hid (K3.out.alloc (.cells #[.string (str pn), .string (str pl), .string (str pd)] 31)); have O4 := hid (O3.out.alloc (Nat.le_of_lt R3.out.lt) (.cells #[.string (str pn), .string (str pl), .string (str pd)] 31)); clear r3 d3)
            | (go_at_call 27; refine (hphr _ R4.out).mono ?_; rintro e w5 ⟨x, ok, t, rfl, r5, o5, hok⟩; obtain ⟨hx5, hok, rfl⟩ := hok; have HX := hid hx5; obtain rfl : ok = true := hok.trans HDEC.out; clear hok hx5; have c5 := r5.c; have f5 := r5.free; have k5 := o5.ad K4.out (by omega); have R5 := hid r5; have K5 := hid k5; have O5 := hid (O4.out.trans o5); have z0 := k5.free 0; have z1 := k5.free 1; have z2 := k5.free 2; have y0 := k5.c0; have y1 := k5.c1; have y2 := k5.c2; clear r5 o5 k5)
            | (go_at_call 28; refine (hby _).mono ?_; rintro e w6 ⟨rfl, rfl⟩))
          refine bodyPost_ret (v := .tuple #[.agg #[.string (str []), .string (str []), .string (str [])], .bool false]) (by first | (simp [results, Tryd.results17, go_sem, y0, y1, y2]; done) | (simp [results, Tryd.results17, go_sem, y0, y1, y2]; rfl)) rfl ⟨([], [], []), false, _, rfl, ((R5.out.other (by omega) _).other (by omega) _).other (by omega) _, ((O5.out.setNew (Nat.le_refl _) (Nat.le_of_lt hb)).setNew (Nat.le_refl _) (Nat.le_of_lt hb)).setNew (Nat.le_refl _) (Nat.le_of_lt hb), rfl⟩

end Go.Proofs.YtmgndnbcaeepcaaDoor
