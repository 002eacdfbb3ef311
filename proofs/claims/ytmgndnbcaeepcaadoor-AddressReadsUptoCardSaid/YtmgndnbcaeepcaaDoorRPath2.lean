/-
  The reference's Path.
-/
import Derived.Test.YtmgndnbcaeepcaaDoorRPath
namespace Go.Proofs.YtmgndnbcaeepcaaDoor
open Go.RowKit Own Ad
set_option linter.unusedVariables false
set_option linter.unusedSimpArgs false
set_option maxRecDepth 100000
attribute [local go_sem] str_toList

set_option maxHeartbeats 2000000 in
theorem rpath_any (s : List UInt8) (w : World) (hG : GoodA w) (hs : s.length ≤ 1000000000) :
    Calls Tryd.prog 12 #[.string (str s)] w fun e w' => e = .returned (.tuple #[adV (pathP s).1, .int .i64 (pathP s).2]) ∧ Below w.heap.size w w' := by
  have hsz := str_size s
  have I0 := hid (AdAt.new w ([], [], []))
  have B0 := hid ((Below.refl w.heap.size w).alloc (Nat.le_refl _) (.cells #[.string (str []), .string (str []), .string (str [])] 31))
  have y0 := I0.out.c0
  have y1 := I0.out.c1
  have y2 := I0.out.c2
  by_cases h1 : s = [60, 62]
  · have hP : pathP s = (([], [], []), 0) := by rw [h1]; rfl
    rw [hP]
    have e1 : (s == [60, 62]) = true := by simpa using h1
    clear hP h1
    go_enter Tryd.func12, Tryd.ntmps12
    go_wp2_with fail
    exact bodyPost_ret (v := .tuple #[adV ([], [], []), .int .i64 0]) (by first | (simp [results, Tryd.results12, go_sem, adV]; done) | (simp [results, Tryd.results12, go_sem, adV]; rfl)) rfl ⟨rfl, B0.out⟩
  · have e1 : (s == [60, 62]) = false := by simpa using h1
    by_cases h2 : s.length < 2
    · have hP : pathP s = (([], [], []), 90) := by
        match s, h2 with
        | [], _ => rfl
        | [c], _ =>
          by_cases h : c = 60
          · subst h; simp [pathP]
          · unfold pathP
            split
            · rename_i t ht
              simp at ht
              exact absurd ht.1 h
            · rfl
      rw [hP]
      clear hP h1
      go_enter Tryd.func12, Tryd.ntmps12
      go_wp2_with fail
      exact bodyPost_ret (v := .tuple #[adV ([], [], []), .int .i64 90]) (by first | (simp [results, Tryd.results12, go_sem, adV]; done) | (simp [results, Tryd.results12, go_sem, adV]; rfl)) rfl ⟨rfl, B0.out⟩
    obtain ⟨c, hc⟩ : ∃ c, s[0]? = some c := ⟨_, List.getElem?_eq_getElem (by omega)⟩
    obtain ⟨e, he⟩ : ∃ e, s[s.length - 1]? = some e := ⟨_, List.getElem?_eq_getElem (by omega)⟩
    have hixc := str_ix hc
    have hixe := str_ix he
    obtain ⟨t, ht⟩ : ∃ t, s = c :: t := by
      cases s with
      | nil => simp at hc
      | cons x t => exact ⟨t, by simp at hc; rw [hc]⟩
    by_cases hc60 : c = 60
    · have e2 : ((c.toNat : Int) != 60) = false := by rw [hc60]; rfl
      have hlast : t.getLast? = some e := by
        have h3 : s.getLast? = some e := by rw [List.getLast?_eq_getElem?, he]
        rw [ht] at h3
        cases t with
        | nil => rw [ht] at h2; simp at h2
        | cons x t => rw [List.getLast?_cons_cons] at h3; exact h3
      by_cases he62 : e = 62
      · have e3 : ((e.toNat : Int) != 62) = false := by rw [he62]; rfl
        have hP : pathP s = parseP t.dropLast := by
          rw [ht, hc60]
          show (if t = [62] then _ else if t.getLast? = some 62 then _ else _) = _
          rw [if_neg (fun h => h1 (by rw [ht, hc60, h])), if_pos (by rw [hlast, he62])]
        have hcut : (str s).extract 1 (s.length - 1) = str t.dropLast := by
          rw [str_cut, ht, List.dropLast_eq_take]
          have : (c :: t).length - 1 = t.length := by simp
          rw [this]
          cases t with
          | nil => simp at hlast
          | cons x t => simp
        rw [hP]
        have hpa := fun W g => rparse_any t.dropLast W g (by rw [ht] at hs; simp at hs ⊢; omega)
        obtain ⟨⟨n, l, d⟩, E, hE⟩ : ∃ a E, parseP t.dropLast = (a, E) := ⟨_, _, rfl⟩
        rw [hE] at hpa ⊢
        dsimp only [adV] at hpa ⊢
        have hm1 : 1 ≤ s.length - 1 := by omega
        clear hP hE hlast ht hc he hc60 he62 h1
        go_enter Tryd.func12, Tryd.ntmps12
        go_wp2_with (go_at_call 10; refine (hpa _ (hG.below B0.out)).mono ?_; rintro e w3 ⟨rfl, c3⟩; have i1 := I0.out.below c3; have B3 := hid (below_then B0.out c3); have u0 := i1.c0; have u1 := i1.c1; have u2 := i1.c2; have z0 := i1.free 0; have z1 := i1.free 1; have z2 := i1.free 2; clear c3 i1)
        exact bodyPost_ret (v := .tuple #[.agg #[.string (str n), .string (str l), .string (str d)], .int .i64 E]) (by first | (simp [results, Tryd.results12, go_sem, u0, u1, u2]; done) | (simp [results, Tryd.results12, go_sem, u0, u1, u2]; rfl)) rfl ⟨rfl, ((B3.out.setCell (by simp) _).setCell (by simp) _).setCell (by simp) _⟩
      · have e3 : ((e.toNat : Int) != 62) = true := by
          rw [bne_iff_ne]; intro h; exact he62 ((u8_eq e 62 (by decide)).1 (by rw [beq_iff_eq]; exact h))
        have hP : pathP s = (([], [], []), 90) := by
          rw [ht, hc60]
          show (if t = [62] then _ else if t.getLast? = some 62 then _ else _) = _
          rw [if_neg (fun h => h1 (by rw [ht, hc60, h])), if_neg (by rw [hlast]; intro h; exact he62 (Option.some.inj h))]
        rw [hP]
        clear hP hlast ht hc he hc60 he62 h1
        go_enter Tryd.func12, Tryd.ntmps12
        go_wp2_with fail
        exact bodyPost_ret (v := .tuple #[adV ([], [], []), .int .i64 90]) (by first | (simp [results, Tryd.results12, go_sem, adV]; done) | (simp [results, Tryd.results12, go_sem, adV]; rfl)) rfl ⟨rfl, B0.out⟩
    · have e2 : ((c.toNat : Int) != 60) = true := by
        rw [bne_iff_ne]; intro h; exact hc60 ((u8_eq c 60 (by decide)).1 (by rw [beq_iff_eq]; exact h))
      have hP : pathP s = (([], [], []), 90) := by
        rw [ht]
        unfold pathP
        split
        · rename_i t2 h3
          simp at h3
          exact absurd h3.1 hc60
        · rfl
      rw [hP]
      clear hP ht hc he hc60 h1
      go_enter Tryd.func12, Tryd.ntmps12
      go_wp2_with fail
      exact bodyPost_ret (v := .tuple #[adV ([], [], []), .int .i64 90]) (by first | (simp [results, Tryd.results12, go_sem, adV]; done) | (simp [results, Tryd.results12, go_sem, adV]; rfl)) rfl ⟨rfl, B0.out⟩

end Go.Proofs.YtmgndnbcaeepcaaDoor
