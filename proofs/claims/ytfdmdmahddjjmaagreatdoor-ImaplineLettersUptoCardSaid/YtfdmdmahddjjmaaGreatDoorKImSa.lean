/-
  The reader of STATUS.
-/
import Derived.Test.YtfdmdmahddjjmaaGreatDoorKImR
namespace Go.Proofs.YtfdmdmahddjjmaaGreatDoor
open Go.RowKit Own Im
set_option linter.unusedVariables false
set_option linter.unusedSimpArgs false
set_option maxRecDepth 100000
attribute [local go_sem] str_toList str_size

theorem ItCells.grownE {e2 : TypeId} {sz2 B B2 : Nat} {w w' : World} {v : Value} {m : Nat} {ys : List Value} (he : 3 ≠ e2) (ho : GBuf e2 sz2 B2 w v m ys) (hg : w.grownBy w' v.ownBlock) : ∀ {l : List It} {xs : List Value}, ItCells B w l xs → ItCells B w' l xs
  | [], _, h => h
  | it :: l, xs, ⟨sv, r, h1, h2, h3⟩ => ⟨sv, r, h1, h2.grown he ho hg, ItCells.grownE he ho hg h3⟩
theorem KyCells.grownE {e2 : TypeId} {sz2 B B2 : Nat} {w w' : World} {v : Value} {m : Nat} {ys : List Value} (he : 89 ≠ e2) (ho : GBuf e2 sz2 B2 w v m ys) (hg : w.grownBy w' v.ownBlock) : ∀ {l : List Ky} {xs : List Value}, KyCells B w l xs → KyCells B w' l xs
  | [], _, h => h
  | k :: l, xs, ⟨sv, r, h1, h2, h3⟩ => ⟨sv, r, h1, GBuf.grown he h2 ho hg, KyCells.grownE he ho hg h3⟩
theorem LBuf.grown {e2 : TypeId} {sz2 B B2 : Nat} {w w' : World} {u v : Value} {m : Nat} {ys : List Value} {l : Bt} (he : 5 ≠ e2) (h : LBuf B w u l) (ho : GBuf e2 sz2 B2 w v m ys) (hg : w.grownBy w' v.ownBlock) : LBuf B w' u l := by
  obtain ⟨A, c, h1, h2, h3, h4, h5⟩ := h
  refine ⟨A, c, h1, h2, h3, Nat.le_trans h4 hg.size, fun p hp => ?_⟩
  obtain ⟨g, cs, f, e1, e2, e3, e4⟩ := h5 p hp
  refine ⟨g, cs, f, e1, e2, (hg.block g (lt_of_block e3) ?_).trans e3, e4⟩
  intro hq
  rcases ho.1.2 with ⟨hv, -⟩ | ⟨g2, cap2, cur2, rfl, -, hb2, -⟩
  · subst hv
    cases hq
  · have : g2 = g := by simpa [Value.ownBlock] using hq.symm
    subst this
    rw [e3] at hb2
    injection hb2 with h1
    injection h1 with h2 h3
    exact he h3
theorem CmRows.namesGrown {B : Nat} {w w' : World} {x : Cm} {v : CmV} {v' : Value} {l' : List Bt} (h : CmRows B w x v) (hg : w.grownBy w' v.names.ownBlock) (hn : SBuf B w' v' l') : CmRows B w' { x with names := l' } { v with names := v' } := by
  obtain ⟨xi, hi1, hi2⟩ := h.items
  obtain ⟨xk, hk1, hk2⟩ := h.keys
  have ho : GBuf 9 1 B w v.names x.names.length (sv x.names) := h.names
  exact ⟨GBuf.grown (by decide) h.set ho hg, hn, ⟨xi, GBuf.grown (by decide) hi1 ho hg, hi2.grownE (by decide) ho hg⟩, ⟨xk, GBuf.grown (by decide) hk1 ho hg, hk2.grownE (by decide) ho hg⟩, LBuf.grown (by decide) h.lit ho hg⟩
theorem CmRows.keysGrown {B : Nat} {w w' : World} {x : Cm} {v : CmV} {v' : Value} {l' : List Ky} (h : CmRows B w x v) (hg : w.grownBy w' v.keys.ownBlock) (hk : vKeys B l' v' w') : CmRows B w' { x with keys := l' } { v with keys := v' } := by
  obtain ⟨xi, hi1, hi2⟩ := h.items
  obtain ⟨xk, hk1, hk2⟩ := h.keys
  have hs : GBuf 9 1 B w v.names x.names.length (sv x.names) := h.names
  exact ⟨GBuf.grown (by decide) h.set hk1 hg, GBuf.grown (by decide) hs hk1 hg, ⟨xi, GBuf.grown (by decide) hi1 hk1 hg, hi2.grownE (by decide) hk1 hg⟩, hk, LBuf.grown (by decide) h.lit hk1 hg⟩
/-- append(v, x) of one text: a step of the walk; what it grows is told. -/
theorem wpList_tbuf {ops : Array Oper} {rest : List Oper} {o : Oper} {a : Act} {Q : Exit → Act → World → Prop} (B : Nat) (w : World) (hgd : o.guard = none) (s x : Operand)
    (ho : o.op = .call { callee := .builtin .append, args := #[s, x], argTypes := #[25, 25] }) (v : Value) (l : List Bt) (r : Bt) (hs : a.eval s = v) (hbuf : SBuf B w v l)
    (ad : Addr) (c : Nat) (hx : a.eval x = .slice (some ad) 1 c) (hnews : ∀ j u, (sv [r])[j]? = some u → w.cell? (ad.add j) = some u) (hlen : l.length ≤ 1000000000)
    (h : ∀ v' w', SBuf B w' v' (l ++ [r]) → Below B w w' → w.grownBy w' v.ownBlock → wpList Tryz.prog ops Q rest (a.put o.dst v') w') : wpList Tryz.prog ops Q (o :: rest) a w := by
  obtain ⟨i, hi, hz, hsize, hby⟩ := info_parts info_string
  refine wpList_append_own w hgd s x 25 ho B 9 i _ 1 16 Tryz.underlying25 hi hz hsize hby rfl (by decide) v l.length (sv l) hs hbuf.1 ad 1 c (sv [r]) hx rfl hnews (sv_one [r]) (by unfold maxLen; omega) (by omega) hbuf.2 ?_
  intro v' w' h2 h3 _
  refine h v' w' ?_ (own_below hbuf h3) h3
  unfold SBuf
  rw [sv_append, List.length_append]
  exact ⟨h2, Nat.le_trans hbuf.2 h3.size⟩
theorem SBuf.slc {B : Nat} {w : World} {v : Value} {l : List Bt} (h : SBuf B w v l) : ∃ A n c, v = .slice A n c := by
  obtain ⟨A, c, h1, -⟩ := h.full
  exact ⟨A, _, c, h1⟩
theorem contains_any (l : List Bt) (x : Bt) (k : Bool) (hk : l.contains x = k) (hl : l.length ≤ 10) (g c : Nat) (W : World) (hc : ∀ (j : Nat) (y : Bt), l[j]? = some y → W.cell? ⟨g, j, none⟩ = some (.string (str y))) :
    Calls Tryz.prog 94 #[.slice (some ⟨g, 0, none⟩) l.length c, .string (str x)] W fun e w' => e = .returned (.bool k) ∧ w' = W := by
  refine (Tryz.slices_Contains_string g 0 l.length c (l.map str) (str x) W (by simp) (by omega) (fun j hj => ?_)).mono ?_
  · rw [List.length_map] at hj
    rw [Nat.zero_add, hc j _ (List.getElem?_eq_getElem hj), List.getD_eq_getElem?_getD, List.getElem?_map, List.getElem?_eq_getElem hj]
    rfl
  · rintro e w' ⟨rfl, rfl⟩
    refine ⟨?_, rfl⟩
    rw [List.take_of_length_le (by simp), ← hk]
    have h : Lib.containsS (l.map str) (str x) = l.contains x := by
      rw [Bool.eq_iff_iff, Lib.containsS_iff, List.contains_iff_mem, List.mem_map]
      exact ⟨fun ⟨y, h1, h2⟩ => str_inj h2 ▸ h1, fun h => ⟨x, h, rfl⟩⟩
    rw [h]
theorem statusL_on {f : Nat} {l : List Bt} {s w t r : Bt} (h : Im.word s = (w, t)) (hc : statusNames.contains w = true) (hk : takes [32] t = (true, r)) : statusL (f + 1) l s = statusL f (l ++ [w]) r := by
  rw [statusL.eq_def]
  dsimp only
  rw [h]
  dsimp only
  rw [if_pos hc, hk]
  rfl
theorem statusL_end {f : Nat} {l : List Bt} {s w t r : Bt} (h : Im.word s = (w, t)) (hc : statusNames.contains w = true) (hk : takes [32] t = (false, r)) : statusL (f + 1) l s = some (l ++ [w], t) := by
  rw [statusL.eq_def]
  dsimp only
  rw [h]
  dsimp only
  rw [if_pos hc, hk]
  rfl
theorem statusL_none {f : Nat} {l : List Bt} {s w t : Bt} (h : Im.word s = (w, t)) (hc : statusNames.contains w = false) : statusL (f + 1) l s = none := by
  rw [statusL.eq_def]
  dsimp only
  rw [h]
  dsimp only
  rw [if_neg (by rw [hc]; simp)]
/-- How far the loop is from its end. -/
def statM (b : Nat) (v : Value) (w : World) : Nat := match v with
  | .bool true => rdLen b w + 1
  | _ => 0
def statEnd (x : Cm) (r : List Bt × Bt) : Option (Cm × Bt) := (sign [41] r.2).map fun s => ({ x with names := r.1 }, s)

set_option maxHeartbeats 4000000 in
theorem status_any : FormC 58 (readF 5) := by
  intro b c B s x v w h hc hv hbc hcB hB hx7 hx6
  have hbB : b < B := by omega
  have hcb : c ≠ b := by omega
  have H := hid h
  have K0 := hid hc
  have S0 := hid hv
  have T0 := hid (Two.refl b c w)
  clear h hc hv
  obtain ⟨R, hR⟩ : ∃ R, R = (readF 5) x s := ⟨_, rfl⟩
  rw [← hR]
  have HR := hid hR
  clear hR
  have tok0 : Tk 0 := ⟨⟩
  go_enter Tryz.func58, Tryz.ntmps58
  go_wp2_with (first
    | (go_at_call 51; have t_ : Tk 0 := ‹Tk 0›; refine (then_any b s _ H.out).mono ?_; intro e w1 h1; rcases h1.cases with ⟨q1, rfl, o1⟩ | ⟨x1, s1, y1, q1, rfl, rfl, r1, o1⟩ <;> (first | (have k1 := K0.out.only o1 hcb; have u1 := k1.c4; have f1 := k1.free 4; have K1 := hid (k1.set4 x1); have e1 := (show CmRows B (w1.setCell ⟨c, 4, none⟩ (.string (str x1))) _ _ from (S0.out.stays (o1.stays hbB)).stays ((setStays _ _ _ _).mono hcB)); have S1 := hid (CmRows.as K1.out e1.set e1.names e1.items e1.keys e1.lit); clear e1; have T1 : Hid (Two b c w (w1.setCell ⟨c, 4, none⟩ (.string (str x1)))) := hid ((T0.out.trans o1.two).trans (Two.set _ hbc _ _)); have R1 : Hid (RdI (w1.setCell ⟨c, 4, none⟩ (.string (str x1))) b s1) := hid (r1.far hbc _);  have Q1 := hid q1;  clear r1 q1 o1 h1) | (have Q1 := hid q1; have T1 := hid (T0.out.trans o1.two); clear q1 o1 h1)) <;> (clear t_ tok0; have tok1 : Tk 1 := ⟨⟩))
    | (go_at_call 53; have t_ : Tk 1 := ‹Tk 1›; refine (sign_any b s1 [32, 40] _ R1.out).mono ?_; intro e w2 h2; rcases sign_cases h2 with ⟨q2, rfl, o2⟩ | ⟨s2, q2, rfl, r2, o2⟩ <;> (first | (have K2 : Hid (CmAt w2 c _ _) := hid (K1.out.only o2 hcb); have S2 := hid (S1.out.stays (o2.stays hbB)); have T2 := hid (T1.out.trans o2.two); have R2 := hid r2; have Q2 := hid q2; clear r2 q2 o2 h2) | (have Q2 := hid q2; have T2 := hid (T1.out.trans o2.two); clear q2 o2 h2)) <;> (clear t_ tok1; have tok2 : Tk 2 := ⟨⟩)))
  all_goals first
    | (refine ⟨rfl, FormPost.panic ?_ T2.out⟩; rw [HR.out]; simp [readF, statusF, Q1.out, Q2.out]; done)
    | (refine ⟨rfl, FormPost.panic ?_ T1.out⟩; rw [HR.out]; simp [readF, statusF, Q1.out]; done)
    | skip
  obtain ⟨hx6, hxn⟩ := hx6
  have hR3 : R = (statusL (s2.length + 1) [] s2).bind (statEnd { x with box := x1 }) := by rw [HR.out]; simp [readF, statusF, Q1.out, Q2.out, hx6, statEnd]; try rfl
  clear HR
  go_loopw [4] (fun v4 wr => ∃ (more : Bool) (f : Nat) (l : List Bt) (vn : Value) (t : Bt), v4 = .bool more ∧ (more = true → R = (statusL f l t).bind (statEnd { x with box := x1 }) ∧ t.length < f ∧ l.length + t.length ≤ 100000000) ∧ (more = false → R = statEnd { x with box := x1 } (l, t)) ∧ CmAt wr c { x with box := x1, names := l } { v with names := vn } ∧ CmRows B wr { x with box := x1, names := l } { v with names := vn } ∧ SBuf w.heap.size wr vn l ∧ RdI wr b t ∧ Two b c w wr) (fun v4 wr => statM b v4 wr)
  case atStart => exact ⟨true, _, [], v.names, s2, rfl, fun _ => ⟨hR3, Nat.lt_succ_self _, by have := R2.out.len; simp; omega⟩, (fun h => by cases h), (show CmAt w2 c _ _ from by have k := K2.out; unfold CmAt at k ⊢; rw [k, hx6]), (have e := S2.out; ⟨e.set, by rw [← hx6]; exact e.names, e.items, e.keys, e.lit⟩), (by rw [hxn]; exact SBuf.nil T2.out.size), R2.out, T2.out⟩
  case round =>
    obtain ⟨more, f, l, vn, t, rfl, hr1, hr2, hc, hv, hnb, hrd, ht⟩ := hrel
    have NB := hid hnb
    have hbw : b < w.heap.size := by omega
    have KC := hid hc
    have SC := hid hv
    have RC := hid hrd
    have TC := hid ht
    cases more with
    | false =>
      have HR6 := hid (hr2 rfl)
      clear hc hv hrd ht hnb hr1 hr2 hR3
      go_wp2_with (go_at_call 53; refine (sign_any b t [41] _ RC.out).mono ?_; intro e w9 h9; rcases sign_cases h9 with ⟨q9, rfl, o9⟩ | ⟨s9, q9, rfl, r9, o9⟩ <;> (first | (have K9 := hid (KC.out.only o9 hcb); have S9 := hid (SC.out.stays (o9.stays hbB)); have T9 := hid (TC.out.trans o9.two); have R9 := hid r9; have Q9 := hid q9; clear r9 q9 o9 h9) | (have T9 := hid (TC.out.trans o9.two); have Q9 := hid q9; clear q9 o9 h9)))
      · exact ⟨rfl, FormPost.panic (by rw [HR6.out]; simp [statEnd, Q9.out]) T9.out⟩
      · go_end0
        exact FormPost.give (by rw [HR6.out]; simp [statEnd, Q9.out]) T9.out R9.out K9.out S9.out
    | true =>
      obtain ⟨hr3, hlf, hlen⟩ := hr1 rfl
      obtain ⟨f, rfl⟩ : ∃ k, f = k + 1 := ⟨f - 1, by omega⟩
      obtain ⟨wd, t1, hw⟩ : ∃ wd t1, Im.word t = (wd, t1) := ⟨_, _, rfl⟩
      have hwd := fun W hW => word_any b t W hW
      have hle := word_le t
      rw [hw] at hwd hle
      dsimp only at hwd hle
      have HW := hid hw
      clear hc hv hrd ht hnb hr1 hr2 hR3 hw
      cases hcn : statusNames.contains wd with
      | false =>
        have HR6 : Hid (R = none) := hid (by rw [hr3, statusL_none HW.out hcn]; rfl)
        clear hr3
        go_wp2_with (first
          | (go_at_call 25; refine (hwd _ RC.out).mono ?_; rintro e w5 ⟨rfl, r5, o5⟩; have k5 := KC.out.only o5 hcb; have u6 := fun ob => keep_below ((Below.refl w5.heap.size w5).alloc (Nat.le_refl _) ob) rfl k5.c6; have K5 := hid k5; have S5 := hid (SC.out.stays (o5.stays hbB)); have R5 := hid r5; have N5 := hid (NB.out.stays (o5.stays hbw)); have T5 := hid (TC.out.trans o5.two); have hB5 : w.heap.size ≤ w5.heap.size := T5.out.size; clear r5 o5 k5)
          | (go_at_call 94; refine (contains_any statusNames wd false hcn (by decide) _ _ _ (two_cells w5 statusNames _ _ (by rfl) rfl)).mono ?_; rintro e w6 ⟨rfl, he⟩; obtain rfl := he.symm)
          | (go_at_call 28; refine (must_f _).mono ?_; rintro e w11 ⟨rfl, he⟩; obtain rfl := he.symm))
        exact ⟨rfl, FormPost.panic HR6.out (T5.out.trans (Two.of ((Below.refl _ _).alloc (Nat.le_refl _) _) (Nat.le_of_lt R5.out.lt)))⟩
      | true =>
        have HR3 := hid hr3
        have HCN := hid hcn
        clear hr3
        go_wp2_with (first
          | (go_at_call 25; refine (hwd _ RC.out).mono ?_; rintro e w5 ⟨rfl, r5, o5⟩; have k5 := KC.out.only o5 hcb; have u6 := fun ob => keep_below ((Below.refl w5.heap.size w5).alloc (Nat.le_refl _) ob) rfl k5.c6; have K5 := hid k5; have S5 := hid (SC.out.stays (o5.stays hbB)); have R5 := hid r5; have N5 := hid (NB.out.stays (o5.stays hbw)); have T5 := hid (TC.out.trans o5.two); have hB5 : w.heap.size ≤ w5.heap.size := T5.out.size; clear r5 o5 k5)
          | (go_at_call 94; refine (contains_any statusNames wd true hcn (by decide) _ _ _ (two_cells w5 statusNames _ _ (by rfl) rfl)).mono ?_; rintro e w6 ⟨rfl, he⟩; obtain rfl := he.symm)
          | (go_at_call 28; refine (must_t _).mono ?_; rintro e w11 ⟨rfl, he⟩; obtain rfl := he.symm)
          | (at_builtin; go_loud (refine wpList_tbuf w.heap.size _ (by rfl) _ _ (by rfl) _ l wd (by rfl) ((N5.out.alloc _).alloc _) _ 1 (by rfl) (slit _ wd _ _ _ (by simp) rfl) (by omega) ?_); intro v7 w7 hb7 hbel7 hg7; obtain ⟨A7, n7, c7, rfl⟩ := hb7.slc; have m7 := (((Below.refl w.heap.size w5).alloc hB5 _).alloc (by simp; omega) _).trans hbel7; have k7 := K5.out.below' m7 (by omega); have f6 := k7.free 6; have u7 := k7.c6; have K7 := hid k7; have R7 := hid (R5.out.below' m7 hbw); have T7 := hid (T5.out.below m7 hbw (Nat.le_refl _)); have S7 := hid ((((S5.out.stays (Below.stays ((Below.refl _ _).alloc (Nat.le_refl _) _))).stays (Below.stays ((Below.refl _ _).alloc (Nat.le_refl _) _))).namesGrown hg7 (GBuf.mono hb7 hB))); have N7 := hid hb7; clear hb7 hbel7 hg7 m7 k7)
          | (go_at_call 26; refine (takes_any b t1 [32] _ (R7.out.far hbc _)).mono ?_; intro e w8 h8; rcases takes_cases h8 with ⟨s8, q8, rfl, r8, o8⟩ | ⟨s8, q8, rfl, r8, o8⟩ <;> (have Q8 := hid q8; have R8 := hid r8; have K8 := hid ((K7.out.set6 (.slice A7 n7 c7) (l ++ [wd])).only o8 hcb); have e8 := (S7.out.stays ((setStays w7 c 6 (.slice A7 n7 c7)).mono hcB)).stays (o8.stays hbB); have S8 : Hid (CmRows B w8 { x with box := x1, names := l ++ [wd] } { v with names := .slice A7 n7 c7 }) := hid ⟨e8.set, e8.names, e8.items, e8.keys, e8.lit⟩; have N8 := hid ((N7.out.stays ((setStays w7 c 6 (.slice A7 n7 c7)).mono (show c + 1 ≤ w.heap.size by omega))).stays (o8.stays hbw)); have T8 := hid ((T7.out.trans (Two.set _ hbc _ _)).trans o8.two); clear q8 r8 o8 h8 e8)))
        · exact ⟨⟨false, f, l ++ [wd], .slice A7 n7 c7, s8, rfl, (fun h => by cases h), (fun _ => by rw [HR3.out, statusL_end HW.out HCN.out Q8.out, takes_no Q8.out]; rfl), K8.out, S8.out, N8.out, R8.out, T8.out⟩, by simp [statM]⟩
        · exact ⟨⟨true, f, l ++ [wd], .slice A7 n7 c7, s8, rfl, (fun _ => ⟨by rw [HR3.out, statusL_on HW.out HCN.out Q8.out], by have := takes_lt Q8.out; simp at this; omega, by have := takes_lt Q8.out; simp at this ⊢; omega⟩), (fun h => by cases h), K8.out, S8.out, N8.out, R8.out, T8.out⟩, by have := takes_lt Q8.out; simp at this; simp [statM, rdLen_of R8.out, rdLen_of RC.out]; omega⟩
end Go.Proofs.YtfdmdmahddjjmaaGreatDoor
