/-
  A row of items: its walk.
-/
import Derived.Test.YtfdmdmahddjjmaaGreatDoorKImM
import Derived.Test.YtfdmdmahddjjmaaGreatDoorKImO
namespace Go.Proofs.YtfdmdmahddjjmaaGreatDoor
open Go.RowKit Own Im
set_option linter.unusedVariables false
set_option linter.unusedSimpArgs false
set_option maxRecDepth 100000
attribute [local go_sem] str_toList str_size

theorem GBuf.part {e : TypeId} {sz : Nat} (w : World) (cs : Array Value) (n cap : Nat) (hcap : cap ≤ 1000000) (hn : n ≤ cap) (hs : cs.size = cap * sz) : GBuf e sz w.heap.size (w.alloc (.cells cs e (0, 0))) (.slice (some ⟨w.heap.size, 0, none⟩) n cap) n (cs.toList.take (n * sz)) := by
  have hle : n * sz ≤ cap * sz := Nat.mul_le_mul_right sz hn
  refine ⟨⟨?_, .inr ⟨w.heap.size, cap, cs, rfl, Nat.le_refl _, heap_alloc_new w _, hn, by unfold maxLen; omega, hs, rfl⟩⟩, by simp⟩
  rw [List.length_take, Array.length_toList, hs]
  omega
theorem short_vals (x : Bt) : kindOf short x = 0 ∨ kindOf short x = 3 ∨ kindOf short x = 4 := by
  unfold kindOf
  cases h : short.find? fun p => p.1 == x with
  | none => exact .inl rfl
  | some p =>
    have := List.mem_of_find?_eq_some h
    have hall : ∀ p ∈ short, p.2 = 0 ∨ p.2 = 3 ∨ p.2 = 4 := by decide
    exact hall p this
def itemsEnd (q : List It × Bt) : Option (List It × Bt) := (sign [41] q.2).bind fun s => if q.1.length ≤ 16 then some (q.1, s) else none
theorem itemsL_on {f : Nat} {l : List It} {s t : Bt} (h : takes [32] s = (true, t)) : itemsL (f + 1) l s = (item t).bind fun q => itemsL f (l ++ [q.1]) q.2 := by
  rw [itemsL.eq_def]
  simp [h]
theorem itemsL_end {f : Nat} {l : List It} {s t : Bt} (h : takes [32] s = (false, t)) : itemsL (f + 1) l s = some (l, s) := by
  rw [itemsL.eq_def]
  simp [h]
theorem fourCells (B : Nat) (w : World) (h : B ≤ w.heap.size) : ItCells B w four (four.flatMap fun it => itC it (.slice none 0 0)) :=
  ⟨.slice none 0 0, _, rfl, GBuf.nil h, .slice none 0 0, _, rfl, GBuf.nil h, .slice none 0 0, _, rfl, GBuf.nil h, .slice none 0 0, _, rfl, GBuf.nil h, rfl⟩
theorem threeCells (B : Nat) (w : World) (h : B ≤ w.heap.size) : ItCells B w (four.take 3) ((four.take 3).flatMap fun it => itC it (.slice none 0 0)) :=
  ⟨.slice none 0 0, _, rfl, GBuf.nil h, .slice none 0 0, _, rfl, GBuf.nil h, .slice none 0 0, _, rfl, GBuf.nil h, rfl⟩

theorem items_short (B : Nat) (w : World) (h : B ≤ w.heap.size) (n g : Nat) (hn : n = 3 ∨ n = 4) (hg : g = w.heap.size) (cs : Array Value) (hcs : cs.toList = four.flatMap fun it => itC it (.slice none 0 0)) : vItems B (four.take n) (.slice (some ⟨g, 0, none⟩) n 4) (w.alloc (.cells cs 37)) := by
  subst hg
  have hs : cs.size = 4 * 6 := by rw [← Array.length_toList, hcs]; rfl
  have hB : B ≤ (w.alloc (.cells cs 37)).heap.size := by simp; omega
  have hp := (GBuf.part (e := 37) (sz := 6) w cs n 4 (by decide) (by omega) hs).mono h
  have hl : (four.take n).length = n := by rcases hn with rfl | rfl <;> rfl
  refine ⟨_, by rw [hl]; exact hp, ?_⟩
  rw [hcs]
  rcases hn with rfl | rfl
  · exact threeCells B _ hB
  · exact fourCells B _ hB

set_option maxHeartbeats 8000000 in
theorem items_any (b : Nat) (s : Bt) (w : World) (h : RdI w b s) :
    Calls Tryz.prog 64 #[.pointer (some ⟨b, 0, none⟩)] w fun e w' => Reads b w (vItems w.heap.size) (Im.items s) e w' := by
  have hmm := @run_makeMap Tryz.prog
  have hgr := fun W => great_any s W (by have := h.len; omega)
  have hblt := h.lt
  have hc0 := h.c
  have hM := MapIn.new' w
  have hlen := h.len
  have H := hid h
  clear h
  obtain ⟨R, hR⟩ : ∃ R, R = Im.items s := ⟨_, rfl⟩
  rw [← hR]
  unfold Im.items at hR
  obtain ⟨G, hG⟩ : ∃ G, s.map (moveB 97 65) = G := ⟨_, rfl⟩
  rw [hG] at hgr
  rw [show great s = G from hG] at hR
  clear hG
  obtain ⟨K, hK⟩ : ∃ K, kindOf short G = K := ⟨_, rfl⟩
  have hKv := short_vals G
  rw [hK] at hR hKv
  rcases hKv with rfl | hKv
  · rw [if_neg (by decide)] at hR
    have HR := hid hR
    clear hR
    go_enter Tryz.func64, Tryz.ntmps64
    go_wp2_with (first
      | (refine wpList_putIn w _ rfl _ _ _ rfl Tryz.underlying100 Tryz.underlying9 _ _ rfl (by assumption) _ rfl _ rfl (by rfl) ?_; intro w_ h_; have c_ := (h_.low.cell hblt).trans hc0)
      | (go_at_call 45; refine (hgr _).mono ?_; rintro e w2 ⟨rfl, b2⟩; have hlk := lookK short G ((show MapAt w_ _ (kindV short) from h_.map).below b2); rw [hK] at hlk; have bb := below_then h_.low b2; have r2 := H.out.below bb; have c2 := r2.c; have f2 := r2.free; have R2 := hid r2; have O2 := hid (Only.of (b := b) bb (Nat.le_of_lt hblt)); clear b2 r2 bb)
      | (go_at_call 26; refine (takes_any b s [40] _ R2.out).mono ?_; intro e w3 h3; rcases takes_cases h3 with ⟨s3, q3, rfl, r3, o3⟩ | ⟨s3, q3, rfl, r3, o3⟩ <;> (have O3 := hid o3; have Q3 := hid q3; have R3 := hid r3; clear o3 q3 r3 h3))
      | (go_at_call 100; refine (item_any b s3 _ R3.out).mono ?_; intro e w4 h4; rcases h4.cases with ⟨q4, rfl, o4⟩ | ⟨it4, s4, y4, q4, rfl, v4, r4, o4⟩ <;> (first | (obtain ⟨sv4, rfl, n4⟩ := v4; obtain ⟨A4, k4, rfl, -, -, -⟩ := n4.full; have l4 := item_le q4; have P4 := hid ((hid (O2.out.trans O3.out)).out.size); have N4 := hid n4; have R4 := hid r4; have Q4 := hid q4; have Y4 := hid o4; have O4 := hid ((hid (O2.out.trans O3.out)).out.trans o4); clear q4 r4 o4 n4 h4) | (have O4 := hid ((hid (O2.out.trans O3.out)).out.trans o4); have Q4 := hid q4; clear o4 q4 h4))))
    all_goals first
      | (refine ⟨rfl, Reads.panic ?_ O4.out⟩; rw [HR.out]; simp [Q3.out, Q4.out]; done)
      | (refine ⟨rfl, Reads.panic ?_ O4.out⟩; have e3 := takes_no Q3.out; subst e3; rw [HR.out]; simp [Q3.out, Q4.out]; done)
      | skip
    · have e3 := takes_no Q3.out
      subst e3
      go_ret
      refine Reads.give (x := [it4]) (by rw [HR.out]; simp [Q3.out, Q4.out]) (O4.out.trans (Only.of ((Below.refl _ _).alloc (Nat.le_refl _) _) (Nat.le_of_lt R4.out.lt))) ?_ (R4.out.below ((Below.refl _ _).alloc (Nat.le_refl _) _))
      exact vItems.one _ it4 A4 it4.sec.length k4 O4.out.size (GBuf.mono N4.out P4.out) _ rfl
    · have hR2 : R = (itemsL (s4.length + 1) [it4] s4).bind itemsEnd := by rw [HR.out]; simp [Q3.out, Q4.out]; rfl
      have hl3 := takes_lt Q3.out
      have hB4 := hid (vItems.one w4 it4 A4 it4.sec.length k4 O4.out.size (GBuf.mono N4.out P4.out) (itC it4 (.slice A4 it4.sec.length k4)).toArray rfl)
      have hO4 := hid (O4.out.trans (Only.of ((Below.refl w4.heap.size w4).alloc (Nat.le_refl _) (.cells (itC it4 (.slice A4 it4.sec.length k4)).toArray 37)) (Nat.le_of_lt R4.out.lt)))
      have hRd4 := hid (R4.out.below ((Below.refl w4.heap.size w4).alloc (Nat.le_refl _) (.cells (itC it4 (.slice A4 it4.sec.length k4)).toArray 37)))
      go_loopw [4] (fun v4 wr => ∃ (f : Nat) (l : List It) (t : Bt), R = (itemsL f l t).bind itemsEnd ∧ t.length < f ∧ l.length + t.length ≤ 100000001 ∧ RdI wr b t ∧ vItems w.heap.size l v4 wr ∧ Only b w wr) (fun _ wr => rdLen b wr)
      case atStart => exact ⟨_, [it4], s4, hR2, Nat.lt_succ_self _, by simp at l4 ⊢; omega, hRd4.out, hB4.out, hO4.out⟩
      case round =>
        obtain ⟨f, l, t, hr, hl, hl8, hrd, hbuf, ho⟩ := hrel
        obtain ⟨f, rfl⟩ : ∃ k, f = k + 1 := ⟨f - 1, by omega⟩
        have HB := hid hbuf
        obtain ⟨xs, hb0, -⟩ := hbuf
        obtain ⟨A, cc, rfl, hcc, -, -⟩ := hb0.full
        have HRd := hid hrd
        have HO := hid ho
        have HR2 := hid hr
        clear hrd ho hb0 hr hR2 hM hc0 hmm hgr c_ hlk c2 f2
        go_wp2_with (first
          | (refine wpList_ibuf w.heap.size _ (by rfl) _ _ (by rfl) _ l (by rfl) (((HB.out.stays (O5.out.stays hblt)).stays (Y6.out.stays hblt)).stays (Below.stays ((Below.refl _ _).alloc (Nat.le_refl _) _))) it6 A6 it6.sec.length k6 ((GBuf.mono N6.out P6.out).alloc _) _ 1 (by rfl) (fun j u hu => lit_cells _ _ _ _ _ (by rfl) j u hu) (by omega) ?_; intro v7 w7 hb7 hbel7; have m7 := ((Below.refl w.heap.size w6).alloc (by have := O6.out.size; omega) _).trans hbel7; have R7 := hid (R6.out.below' m7 hblt); have B7 := hid hb7; have O7 := hid (O6.out.trans' m7 hblt (Nat.le_refl _)); clear hb7 hbel7 m7)
          | (go_at_call 26; refine (takes_any b t [32] _ HRd.out).mono ?_; intro e w5 h5; rcases takes_cases h5 with ⟨s5, q5, rfl, r5, o5⟩ | ⟨s5, q5, rfl, r5, o5⟩ <;> (have O5 := hid o5; have Q5 := hid q5; have R5 := hid r5; clear o5 q5 r5 h5))
          | (go_at_call 100; refine (item_any b s5 _ R5.out).mono ?_; intro e w6 h6; rcases h6.cases with ⟨q6, rfl, o6⟩ | ⟨it6, s6, y6, q6, rfl, v6, r6, o6⟩ <;> (first | (obtain ⟨sv6, rfl, n6⟩ := v6; obtain ⟨A6, k6, rfl, -, -, -⟩ := n6.full; have l6 := item_le q6; have P6 := hid ((hid (HO.out.trans O5.out)).out.size); have N6 := hid n6; have R6 := hid r6; have Q6 := hid q6; have Y6 := hid o6; have O6 := hid ((hid (HO.out.trans O5.out)).out.trans o6); clear q6 r6 o6 n6 h6) | (have O6 := hid ((hid (HO.out.trans O5.out)).out.trans o6); have Q6 := hid q6; clear o6 q6 h6)))
          | (go_at_call 53; refine (sign_any b s5 [41] _ R5.out).mono ?_; intro e w8 h8; rcases sign_cases h8 with ⟨q8, rfl, o8⟩ | ⟨s8, q8, rfl, r8, o8⟩ <;> (first | (have O8 := hid o8; have Q8 := hid q8; have R8 := hid r8; clear o8 q8 r8 h8) | (have O8 := hid o8; have Q8 := hid q8; clear o8 q8 h8)))
          | (go_at_call 28; refine (must_any _ _).mono ?_; rintro e w9 ⟨h9, he⟩; obtain rfl := he.symm; rcases must_split h9 with ⟨m9, rfl⟩ | ⟨m9, rfl⟩ <;> (first | (have M9 := hid (of_decide_eq_true m9); clear m9 h9) | (have M9 := hid (of_decide_eq_false m9); clear m9 h9))))
        all_goals first
          | (refine ⟨rfl, Reads.panic ?_ O6.out⟩; rw [HR2.out, itemsL_on Q5.out, Q6.out]; rfl)
          | (refine ⟨rfl, Reads.panic ?_ ((HO.out.trans O5.out).trans O8.out)⟩; have e5 := takes_no Q5.out; subst e5; rw [HR2.out, itemsL_end Q5.out]; simp [itemsEnd, Q8.out]; done)
          | (refine ⟨rfl, Reads.panic ?_ ((HO.out.trans O5.out).trans O8.out)⟩; have e5 := takes_no Q5.out; subst e5; have m9 := M9.out; rw [HR2.out, itemsL_end Q5.out]; simp [itemsEnd, Q8.out]; omega)
          | (go_ret; have e5 := takes_no Q5.out; subst e5; exact Reads.give (x := l) (t := s8) (by have m9 := M9.out; rw [HR2.out, itemsL_end Q5.out]; simp [itemsEnd, Q8.out]; omega) ((HO.out.trans O5.out).trans O8.out) ((HB.out.stays (O5.out.stays hblt)).stays (O8.out.stays hblt)) R8.out)
          | (have hl5 := takes_lt Q5.out; exact ⟨⟨f, l ++ [it6], s6, (by rw [HR2.out, itemsL_on Q5.out, Q6.out]; rfl), (by simp at hl5; omega), (by simp at hl5 ⊢; omega), R7.out, B7.out, O7.out⟩, (by rw [rdLen_of R7.out, rdLen_of HRd.out]; simp at hl5; omega)⟩)
  · have HR : Hid (R = some (four.take K.toNat, [])) := hid (by rw [hR, if_pos (by omega)])
    clear hR
    rcases hKv with rfl | rfl
    all_goals
      go_enter Tryz.func64, Tryz.ntmps64
      go_wp2_with (first
        | (refine wpList_putIn w _ rfl _ _ _ rfl Tryz.underlying100 Tryz.underlying9 _ _ rfl (by assumption) _ rfl _ rfl (by rfl) ?_; intro w_ h_; have c_ := (h_.low.cell hblt).trans hc0)
        | (go_at_call 45; refine (hgr _).mono ?_; rintro e w2 ⟨rfl, b2⟩; have hlk := lookK short G ((show MapAt w_ _ (kindV short) from h_.map).below b2); rw [hK] at hlk; have bb := below_then h_.low b2; have r2 := H.out.below bb; have c2 := r2.c; have f2 := r2.free; have R2 := hid r2; have O2 := hid (Only.of (b := b) bb (Nat.le_of_lt hblt)); clear b2 r2 bb))
      go_ret
      have hs2 := O2.out.size
      exact Reads.give HR.out ((O2.out.trans (Only.set _ _ _ _)).trans (Only.of ((Below.refl _ _).alloc (Nat.le_refl _) _) (by have := R2.out.lt; simp; omega))) (items_short _ _ (by simpa using hs2) _ _ (by omega) (by simp) _ rfl) ((R2.out.set [] (Nat.zero_le _)).below ((Below.refl _ _).alloc (Nat.le_refl _) _))
end Go.Proofs.YtfdmdmahddjjmaaGreatDoor
