/-
  SeqsetBack walked.
-/
import Derived.Test.YtifjikpinmgfaaaDoorShown
import Derived.Deep.AppendLies
namespace Go.Proofs.YtifjikpinmgfaaaDoor
open Go.RowKit Own Dec Sq
set_option linter.unusedVariables false
set_option linter.unusedSimpArgs false
set_option maxRecDepth 100000

theorem turn_at {l : List Rg} {k : Nat} {a b : Int} (h : l[k]? = some (a, b)) : ((l.drop k).map fun r => (r.2, r.1)).reverse = ((l.drop (k + 1)).map fun r => (r.2, r.1)).reverse ++ [(b, a)] := by
  obtain ⟨h1, h2⟩ := List.getElem?_eq_some_iff.1 h
  rw [List.drop_eq_getElem_cons h1, h2]
  simp

/-- append(v, r) of one range: a step of a region that draws its order. -/
theorem step_rbuf {ops : Array Oper} {o : Oper} {a : Act} {K : Act → World → Prop} {Q : Exit → Act → World → Prop} {E : Prop} (B : Nat) (w : World) (hgd : o.guard = none) (s x : Operand)
    (ho : o.op = .call { callee := .builtin .append, args := #[s, x], argTypes := #[22, 22] }) (v : Value) (l : List Rg) (r : Rg) (hs : a.eval s = v) (hbuf : RBuf B w v l)
    (ad : Addr) (c : Nat) (hx : a.eval x = .slice (some ad) 1 c) (hnews : ∀ j u, (rv [r])[j]? = some u → w.cell? (ad.add j) = some u) (hlen : l.length ≤ 1000000000)
    (h : ∀ v' w', RBuf B w' v' (l ++ [r]) → Below B w w' → K (a.put o.dst v') w') : if Region.wanted o (yielded ops a.tmps) = true then Oper.wp Tryd.prog o a w K Q else E := by
  obtain ⟨i, hi, hz, hsize, hby⟩ := info_parts info_range
  refine step_append_lies w hgd s x 22 ho B 30 i _ 2 16 Tryd.underlying22 hi hz hsize hby rfl (by decide) v l.length (rv l) hs hbuf.1 ad 1 c (rv [r]) hx rfl hnews (rv_one [r]) (by decide) (by unfold maxLen; omega) (by omega) hbuf.2 _ rfl ?_
  intro g cap w' h2 h3 _ _
  refine h _ w' ⟨?_, Nat.le_trans hbuf.2 h3.size⟩ ⟨h3.os, h3.tape, h3.output, h3.size, fun k hk => h3.block k (by have := hbuf.2; omega) (fun e => by have := (hbuf.1.lt k e.symm).1; omega)⟩
  rw [rv_append, List.length_append]
  exact h2

set_option maxHeartbeats 4000000 in
theorem back_walk (A : Option Addr) (nn cc : Nat) (l : List Rg) (A2 : Option Addr) (n2 c2 : Nat) (all : List Int) (w : World) (hG : GoodC w) (hs : SrcR w A l) (hn : nn = l.length) (hs2 : Src w A2 (iv all)) (hn2 : n2 = all.length) (hl : l.length ≤ 1048576) (hl2 : all.length ≤ 1048576) :
    Calls Tryd.prog 6 #[.slice A nn cc, .slice A2 n2 c2] w fun e w' => e = .returned (.bool true) ∧ Below w.heap.size w w' := by
  subst hn hn2
  have HS := hid hs
  have HS2 := hid hs2
  clear hs hs2
  obtain ⟨X, F, hXF⟩ : ∃ X F, printS l = (X, F) := ⟨_, _, rfl⟩
  have hpr := fun W g h => print_any A l.length cc l W g h rfl (by omega)
  rw [hXF] at hpr
  have hp1 := fun W h1 h2 => pick_any A A2 l.length cc all.length c2 l all W h1 h2 rfl rfl (by omega) (by omega)
  have hp2 := fun W A3 c3 (h1 : SrcR W A3 ((l.map fun r => (r.2, r.1)).reverse)) h2 => pick_any A3 A2 l.length c3 all.length c2 ((l.map fun r => (r.2, r.1)).reverse) all W h1 h2 (by simp) rfl (by simp; omega) (by omega)
  rw [pick_turn] at hp2
  obtain ⟨K, hK⟩ : ∃ K, K = pick l all := ⟨_, rfl⟩
  rw [← hK] at hp1 hp2
  have hKl : K.length ≤ all.length := by rw [hK]; exact List.length_filter_le _ _
  have hin := fun W A1 c1 A2 c2 h1 h2 => ints_same A1 A2 K.length c1 K.length c2 K W h1 h2 rfl rfl (by omega)
  clear hK
  by_cases hF : F = 0
  · subst hF
    have hok := printS_ok hXF
    have hXl : X.length ≤ 4000000 := by
      have h2 := hXF
      unfold printS at h2
      split at h2
      · simp at h2
      · split at h2
        · simp at h2
        · split at h2
          · simp at h2
          · rename_i q1 q2 q3
            obtain rfl : Lib.join (l.map rtxt) [44] = X := by simpa using h2
            have hall : l.all okR = true := by cases hq : l.all okR <;> simp_all
            have := join_len [44] 21 (l.map rtxt) (fun x hx => by
              obtain ⟨r, hr, rfl⟩ := List.mem_map.1 hx
              exact rtxt_len (List.all_eq_true.1 hall r hr))
            simp at this
            omega
    have hpa := fun W g => parse_any X W g (by omega)
    rw [hok] at hpa
    have hsm := fun W A1 c1 h1 h2 => same_same A A1 l.length cc l.length c1 l W h1 h2 rfl rfl (by omega)
    clear hXF hok
    go_enter Tryd.func6, Tryd.ntmps6
    go_wp2_with (first
      | (go_at_call 7; refine (shown_any w hG).mono ?_; rintro e w1 ⟨rfl, c1⟩; have b1 := hid c1; clear c1)
      | (go_at_call 16; refine (hpr _ (hG.below b1.out) (HS.out.below b1.out)).mono ?_; rintro e w2 ⟨rfl, c3⟩; have b2 := hid (below_then b1.out c3); clear c3)
      | (go_at_call 13; refine (hpa _ (hG.below b2.out)).mono ?_; rintro e w3 ⟨v3, rfl, h3, c3⟩; obtain ⟨A3, k3, rfl, -, s3⟩ := h3.full; have b3 := hid (below_then b2.out c3); have S3 := hid s3; clear c3 h3 s3)
      | (go_at_call 15; refine (hsm _ _ _ (HS.out.below b3.out) S3.out).mono ?_; rintro e w4 ⟨rfl, c4⟩; have b4 := hid (below_then b3.out c4); clear c4))
    have HB0 : Hid (RBuf w4.heap.size (w4.alloc (.cells #[] 30)) (.slice (some ⟨w4.heap.size, 0, none⟩) 0 0) []) := hid (GBuf.lit w4 #[] 0 (by decide) rfl)
    have L0 : Hid (Below w4.heap.size w4 (w4.alloc (.cells #[] 30))) := hid ((Below.refl _ _).alloc (Nat.le_refl _) _)
    go_loopw [11, 12] (fun v11 v12 wr => ∃ i : Nat, i ≤ l.length ∧ v12 = .int .i64 ((i : Int) - 1) ∧ RBuf w4.heap.size wr v11 (((l.drop i).map fun r => (r.2, r.1)).reverse) ∧ Below w4.heap.size w4 wr) (fun _ v12 _ => (intOf v12 + 1).toNat)
    case atStart => exact ⟨l.length, Nat.le_refl _, by go_num, by rw [List.drop_length]; exact HB0.out, L0.out⟩
    case round =>
      obtain ⟨i, hi, rfl, hbuf, hbel⟩ := hrel
      have HBUF := hid hbuf
      have HBE := hid hbel
      have HW := hid (below_then b4.out hbel)
      clear hbuf
      cases i with
      | succ k =>
        have ek : ((k + 1 : Nat) : Int) - 1 = k := by omega
        rw [ek]
        obtain ⟨⟨a, b⟩, hab⟩ : ∃ r, l[k]? = some r := ⟨_, List.getElem?_eq_getElem (by omega)⟩
        obtain ⟨bk, of, rfl⟩ := srcR_some HS.out (fun h => by rw [h] at hi; simp at hi)
        obtain ⟨hx1, hx2⟩ := (HS.out.below (HW.out.drew)).at_ hab
        obtain ⟨hy1, hy2⟩ := (HS.out.below HW.out).at_ hab
        have ha1 := fun ob => keep_below ((Below.refl _ _).alloc (Nat.le_refl _) ob).drew rfl hy1
        have ha2 := fun ob => keep_below ((Below.refl _ _).alloc (Nat.le_refl _) ob).drew rfl hy2
        have hk0 : (0 : Int) ≤ (k : Int) := Int.natCast_nonneg _
        have hk1 : (k : Int) < (l.length : Int) := by omega
        have hbk : bk < w4.heap.size := World.block_lt_of_cell? w4 _ ((HS.out.below b4.out).at_ hab).1
        have ht := turn_at hab
        have HT := hid ht
        have hol : (((l.drop (k + 1)).map fun r => (r.2, r.1)).reverse).length ≤ 1000000000 := by simp; omega
        clear ht hab hbel ek hpr hin hp1 hp2
        generalize (((l.drop (k + 1)).map fun r => (r.2, r.1)).reverse) = o at *
        go_wp2_with fail
        go_region_held3 (fun w' => w'.cell? ⟨bk, of + k * 2, none⟩ = some (.int .i64 a) ∧ w'.cell? ⟨bk, of + k * 2 + 1, none⟩ = some (.int .i64 b))
          (first
            | exact ⟨hx1, hx2⟩
            | exact ⟨ha1 _, ha2 _⟩
            | go_keep
            | assumption
            | (go_split_ands; exact ⟨(hgr.cell hbk).trans (by assumption), (hgr.cell hbk).trans (by assumption)⟩))
          ((refine step_rbuf w4.heap.size _ (by rfl) _ _ (by rfl) _ o (b, a) (by rfl) ((HBUF.out.alloc _).keep (Below.refl _ _).drew) _ 1 (by rfl) (fun j u hu => keep_below (Below.refl _ _).drew rfl (rlit _ (b, a) _ _ _ (by rfl) (by rfl) j u hu)) hol ?_; intro v' w' hr2 hgr))
        go_wp2_with fail
        go_roundw
        case rel => exact ⟨k, by omega, by go_num, by rw [HT.out]; exact hr2, (HBE.out.alloc HBE.out.size _).drew.trans hgr⟩
        case measure => simp [intOf]
      | zero =>
        rw [List.drop_zero] at HBUF
        have hb := HBUF.out.full
        rw [List.length_reverse, List.length_map] at hb
        obtain ⟨A6, c6, rfl, -, hs6⟩ := hb
        have S6 := hid hs6
        have tok0 : Tk 0 := ⟨⟩
        have e0 : ((0 : Nat) : Int) - 1 = -1 := by omega
        rw [e0]
        clear hs6 hbel HBUF e0
        go_wp2_with (first
          | (go_at_call 9; have t_ : Tk 0 := ‹Tk 0›; refine (hp1 _ (HS.out.below HW.out) (HS2.out.below HW.out)).mono ?_; rintro e w5 ⟨v5, rfl, h5, c5⟩; obtain ⟨A5, k5, rfl, -, s5⟩ := h5.full; have b5 := hid (below_then HW.out c5); have P5 := hid s5; have T5 := hid (S6.out.below c5); clear c5 h5 s5; clear t_; clear tok0; have tok1 : Tk 1 := ⟨⟩)
          | (go_at_call 9; have t_ : Tk 1 := ‹Tk 1›; refine (hp2 _ _ _ T5.out (HS2.out.below b5.out)).mono ?_; rintro e w6 ⟨v6, rfl, h6, c6⟩; obtain ⟨A7, k7, rfl, -, s7⟩ := h6.full; have b6 := hid (below_then b5.out c6); have P6 := hid (P5.out.below c6); have T6 := hid s7; clear c6 h6 s7; clear t_; clear tok1; have tok2 : Tk 2 := ⟨⟩)
          | (go_at_call 8; refine (hin _ _ _ _ _ P6.out T6.out).mono ?_; rintro e w7 ⟨rfl, c7⟩; have b7 := hid (below_then b6.out c7); clear c7))
        go_ret
        exact ⟨rfl, b7.out⟩
  · have eF : (F == 0) = false := by simpa using hF
    clear hXF
    go_enter Tryd.func6, Tryd.ntmps6
    go_wp2_with (first
      | (go_at_call 7; refine (shown_any w hG).mono ?_; rintro e w1 ⟨rfl, c1⟩; have b1 := hid c1; clear c1)
      | (go_at_call 16; refine (hpr _ (hG.below b1.out) (HS.out.below b1.out)).mono ?_; rintro e w4 ⟨rfl, c3⟩; have b4 := hid (below_then b1.out c3); clear c3))
    have HB0 : Hid (RBuf w4.heap.size (w4.alloc (.cells #[] 30)) (.slice (some ⟨w4.heap.size, 0, none⟩) 0 0) []) := hid (GBuf.lit w4 #[] 0 (by decide) rfl)
    have L0 : Hid (Below w4.heap.size w4 (w4.alloc (.cells #[] 30))) := hid ((Below.refl _ _).alloc (Nat.le_refl _) _)
    go_loopw [11, 12] (fun v11 v12 wr => ∃ i : Nat, i ≤ l.length ∧ v12 = .int .i64 ((i : Int) - 1) ∧ RBuf w4.heap.size wr v11 (((l.drop i).map fun r => (r.2, r.1)).reverse) ∧ Below w4.heap.size w4 wr) (fun _ v12 _ => (intOf v12 + 1).toNat)
    case atStart => exact ⟨l.length, Nat.le_refl _, by go_num, by rw [List.drop_length]; exact HB0.out, L0.out⟩
    case round =>
      obtain ⟨i, hi, rfl, hbuf, hbel⟩ := hrel
      have HBUF := hid hbuf
      have HBE := hid hbel
      have HW := hid (below_then b4.out hbel)
      clear hbuf
      cases i with
      | succ k =>
        have ek : ((k + 1 : Nat) : Int) - 1 = k := by omega
        rw [ek]
        obtain ⟨⟨a, b⟩, hab⟩ : ∃ r, l[k]? = some r := ⟨_, List.getElem?_eq_getElem (by omega)⟩
        obtain ⟨bk, of, rfl⟩ := srcR_some HS.out (fun h => by rw [h] at hi; simp at hi)
        obtain ⟨hx1, hx2⟩ := (HS.out.below (HW.out.drew)).at_ hab
        obtain ⟨hy1, hy2⟩ := (HS.out.below HW.out).at_ hab
        have ha1 := fun ob => keep_below ((Below.refl _ _).alloc (Nat.le_refl _) ob).drew rfl hy1
        have ha2 := fun ob => keep_below ((Below.refl _ _).alloc (Nat.le_refl _) ob).drew rfl hy2
        have hk0 : (0 : Int) ≤ (k : Int) := Int.natCast_nonneg _
        have hk1 : (k : Int) < (l.length : Int) := by omega
        have hbk : bk < w4.heap.size := World.block_lt_of_cell? w4 _ ((HS.out.below b4.out).at_ hab).1
        have ht := turn_at hab
        have HT := hid ht
        have hol : (((l.drop (k + 1)).map fun r => (r.2, r.1)).reverse).length ≤ 1000000000 := by simp; omega
        clear ht hab hbel ek hpr hin hp1 hp2
        generalize (((l.drop (k + 1)).map fun r => (r.2, r.1)).reverse) = o at *
        go_wp2_with fail
        go_region_held3 (fun w' => w'.cell? ⟨bk, of + k * 2, none⟩ = some (.int .i64 a) ∧ w'.cell? ⟨bk, of + k * 2 + 1, none⟩ = some (.int .i64 b))
          (first
            | exact ⟨hx1, hx2⟩
            | exact ⟨ha1 _, ha2 _⟩
            | go_keep
            | assumption
            | (go_split_ands; exact ⟨(hgr.cell hbk).trans (by assumption), (hgr.cell hbk).trans (by assumption)⟩))
          ((refine step_rbuf w4.heap.size _ (by rfl) _ _ (by rfl) _ o (b, a) (by rfl) ((HBUF.out.alloc _).keep (Below.refl _ _).drew) _ 1 (by rfl) (fun j u hu => keep_below (Below.refl _ _).drew rfl (rlit _ (b, a) _ _ _ (by rfl) (by rfl) j u hu)) hol ?_; intro v' w' hr2 hgr))
        go_wp2_with fail
        go_roundw
        case rel => exact ⟨k, by omega, by go_num, by rw [HT.out]; exact hr2, (HBE.out.alloc HBE.out.size _).drew.trans hgr⟩
        case measure => simp [intOf]
      | zero =>
        rw [List.drop_zero] at HBUF
        have hb := HBUF.out.full
        rw [List.length_reverse, List.length_map] at hb
        obtain ⟨A6, c6, rfl, -, hs6⟩ := hb
        have S6 := hid hs6
        have tok0 : Tk 0 := ⟨⟩
        have e0 : ((0 : Nat) : Int) - 1 = -1 := by omega
        rw [e0]
        clear hs6 hbel HBUF e0
        go_wp2_with (first
          | (go_at_call 9; have t_ : Tk 0 := ‹Tk 0›; refine (hp1 _ (HS.out.below HW.out) (HS2.out.below HW.out)).mono ?_; rintro e w5 ⟨v5, rfl, h5, c5⟩; obtain ⟨A5, k5, rfl, -, s5⟩ := h5.full; have b5 := hid (below_then HW.out c5); have P5 := hid s5; have T5 := hid (S6.out.below c5); clear c5 h5 s5; clear t_; clear tok0; have tok1 : Tk 1 := ⟨⟩)
          | (go_at_call 9; have t_ : Tk 1 := ‹Tk 1›; refine (hp2 _ _ _ T5.out (HS2.out.below b5.out)).mono ?_; rintro e w6 ⟨v6, rfl, h6, c6⟩; obtain ⟨A7, k7, rfl, -, s7⟩ := h6.full; have b6 := hid (below_then b5.out c6); have P6 := hid (P5.out.below c6); have T6 := hid s7; clear c6 h6 s7; clear t_; clear tok1; have tok2 : Tk 2 := ⟨⟩)
          | (go_at_call 8; refine (hin _ _ _ _ _ P6.out T6.out).mono ?_; rintro e w7 ⟨rfl, c7⟩; have b7 := hid (below_then b6.out c7); clear c7))
        go_ret
        exact ⟨rfl, b7.out⟩

end Go.Proofs.YtifjikpinmgfaaaDoor
