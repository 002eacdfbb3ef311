/-
  A list of addresses.
-/
import Derived.Test.YtmgndnbcaeepcaaDoorOne
namespace Go.Proofs.YtmgndnbcaeepcaaDoor
open Go.RowKit Own Ad
set_option linter.unusedVariables false
set_option linter.unusedSimpArgs false
set_option maxRecDepth 100000
attribute [local go_sem] str_toList

namespace Ad
theorem blanks_suf (s : List UInt8) : blanksP s <:+ s := List.dropWhile_suffix _
theorem qs_suf : ∀ (n : Nat) (l acc t r : List UInt8), l.length ≤ n → qs acc l = some (t, r) → r <:+ l
  | n, [], acc, t, r, _, h => by simp [qs] at h
  | 0, c :: l, acc, t, r, hn, _ => by simp at hn
  | n + 1, c :: l, acc, t, r, hn, h => by
    by_cases h34 : c = 34
    · subst h34
      have : some (acc, l) = some (t, r) := h
      simp only [Option.some.injEq, Prod.mk.injEq] at this
      obtain ⟨rfl, rfl⟩ := this
      exact List.suffix_cons _ _
    · by_cases h92 : c = 92
      · subst h92
        cases l with
        | nil => cases h
        | cons x l =>
          rw [qs_esc] at h
          split at h
          · cases h
          · exact ((qs_suf n l _ _ _ (by simp at hn; omega) h).trans (List.suffix_cons _ _)).trans (List.suffix_cons _ _)
      · rw [qs_other _ _ h34 h92] at h
        split at h
        · cases h
        · exact (qs_suf n l _ _ _ (by simp at hn; omega) h).trans (List.suffix_cons _ _)
theorem word_suf {s w r : List UInt8} (h : word s = some (w, r)) : r <:+ s := by
  unfold word at h
  split at h
  · exact (qs_suf s.tail.length s.tail [] w r (Nat.le_refl _) h).trans (List.tail_suffix s)
  · split at h
    · cases h
    · simp only [Option.some.injEq, Prod.mk.injEq] at h
      rw [← h.2]
      exact List.dropWhile_suffix _
theorem phr_suf : ∀ (f : Nat) (ws : List (List UInt8)) (s : List UInt8) (ws' : List (List UInt8)) (t : List UInt8), phr f ws s = some (some (ws', t)) → t <:+ s
  | 0, ws, s, ws', t, h => by cases h
  | f + 1, ws, s, ws', t, h => by
    have h2 : (if s.head? = some 60 then some (some (ws, s)) else match word s with
      | none => some none
      | some (x, r) => phr f (ws ++ [x]) (blanksP r)) = some (some (ws', t)) := h
    split at h2
    · simp only [Option.some.injEq, Prod.mk.injEq] at h2
      rw [h2.2]; exact List.suffix_refl _
    · cases hw : word s with
      | none => rw [hw] at h2; cases h2
      | some q =>
        obtain ⟨x, r⟩ := q
        rw [hw] at h2
        exact ((phr_suf f _ _ _ _ h2).trans (blanks_suf r)).trans (word_suf hw)
theorem one_suf {f : Nat} {s : List UInt8} {a : Ad} {t : List UInt8} (h : one f s = some (some (a, t))) : t <:+ s := by
  unfold one at h
  dsimp only at h
  split at h
  · simp only [Option.some.injEq, Prod.mk.injEq] at h
    rw [← h.2]
    exact ((blanks_suf _).trans (List.dropWhile_suffix _)).trans (blanks_suf s)
  · split at h
    · cases h
    · cases h
    · rename_i ws t2 hp
      split at h
      · split at h
        · simp only [Option.some.injEq, Prod.mk.injEq] at h
          rw [← h.2]
          exact ((((blanks_suf _).trans (List.tail_suffix _)).trans (List.dropWhile_suffix _)).trans (phr_suf _ _ _ _ _ hp)).trans (blanks_suf s)
        · cases h
      · cases h
theorem Ascii.suf {s t : List UInt8} (h : Ascii s) (hs : t <:+ s) : Ascii t := fun c hc => h c (hs.subset hc)
end Ad

theorem info_addr : (Tryd.prog.info? 31).map (fun i => (i.zero, i.size, i.bytes)) = some (some (.agg #[.string ByteArray.empty, .string ByteArray.empty, .string ByteArray.empty]), 3, 48) := by kernel_rfl
def av (l : List Ad) : List Value := l.flatMap fun a => [.string (str a.1), .string (str a.2.1), .string (str a.2.2)]
theorem av_cons (a : Ad) (l : List Ad) : av (a :: l) = [.string (str a.1), .string (str a.2.1), .string (str a.2.2)] ++ av l := by simp [av]
theorem av_append (l m : List Ad) : av (l ++ m) = av l ++ av m := by simp [av]
theorem av_one (l : List Ad) : ∀ u ∈ av l, u.oneCell' = true := by
  intro u hu
  simp only [av, List.mem_flatMap] at hu
  obtain ⟨r, _, h⟩ := hu
  simp at h
  rcases h with rfl | rfl | rfl <;> rfl
theorem av_at : ∀ {l : List Ad} {j : Nat} {a : Ad}, l[j]? = some a → (av l)[j * 3]? = some (.string (str a.1)) ∧ (av l)[j * 3 + 1]? = some (.string (str a.2.1)) ∧ (av l)[j * 3 + 2]? = some (.string (str a.2.2))
  | [], j, r, h => by simp at h
  | x :: l, 0, r, h => by
    obtain rfl : x = r := by simpa using h
    rw [av_cons]
    exact ⟨rfl, rfl, rfl⟩
  | x :: l, j + 1, r, h => by
    have := av_at (l := l) (j := j) (a := r) (by simpa using h)
    rw [av_cons, show (j + 1) * 3 = j * 3 + 3 by omega]
    exact ⟨by simpa using this.1, by simpa using this.2.1, by simpa using this.2.2⟩
/-- A row of addresses of one's own. -/
def ABuf (B : Nat) (w : World) (v : Value) (l : List Ad) : Prop := GBuf 31 3 B w v l.length (av l)
theorem ABuf.keep {B : Nat} {w w' : World} {v : Value} {l : List Ad} (h : ABuf B w v l) (hb : Below w.heap.size w w') : ABuf B w' v l := GBuf.keep h hb
theorem ABuf.alloc {B : Nat} {w : World} {v : Value} {l : List Ad} (h : ABuf B w v l) (o : Obj) : ABuf B (w.alloc o) v l := GBuf.alloc h o
theorem ABuf.nil {B : Nat} {w : World} (h : B ≤ w.heap.size) : ABuf B w (.slice none 0 0) [] := GBuf.nil h
theorem ABuf.mono {B B2 : Nat} {w : World} {v : Value} {l : List Ad} (h : ABuf B2 w v l) (hB : B ≤ B2) : ABuf B w v l := GBuf.mono h hB
theorem ABuf.only {B b : Nat} {w w' : World} {v : Value} {l : List Ad} (h : ABuf B w v l) (ho : Only b w w') (hb : b < B) : ABuf B w' v l := by
  refine ⟨⟨h.1.1, ?_⟩, Nat.le_trans h.2 ho.size⟩
  rcases h.1.2 with hn | ⟨g, cap, cur, rfl, hb2, hg, rest⟩
  · exact .inl hn
  · exact .inr ⟨g, cap, cur, rfl, hb2, (ho.block (by omega) (lt_of_block hg)).trans hg, rest⟩
theorem ABuf.full {B : Nat} {w : World} {v : Value} {l : List Ad} (h : ABuf B w v l) : ∃ A c, v = .slice A l.length c ∧ l.length ≤ c ∧ (A = none → l = []) ∧ ∀ p, A = some p → ∃ g, p = ⟨g, 0, none⟩ ∧ ∀ j a, l[j]? = some a → w.cell? ⟨g, j * 3, none⟩ = some (.string (str a.1)) ∧ w.cell? ⟨g, j * 3 + 1, none⟩ = some (.string (str a.2.1)) ∧ w.cell? ⟨g, j * 3 + 2, none⟩ = some (.string (str a.2.2)) := by
  obtain ⟨A, c, hv, hc, h1, h2⟩ := GBuf.full h
  refine ⟨A, c, hv, hc, (fun ha => List.eq_nil_of_length_eq_zero (h1 ha).1), fun p hp => ?_⟩
  obtain ⟨g, rfl, _, hcell⟩ := h2 p hp
  refine ⟨g, rfl, fun j a hx => ?_⟩
  obtain ⟨k1, k2, k3⟩ := av_at hx
  exact ⟨hcell _ _ k1, hcell _ _ k2, hcell _ _ k3⟩
theorem alit (w : World) (a : Ad) (cs : Array Value) (fr : Nat × Nat) (n : Nat) (hn : n = w.heap.size) (h : cs.toList = av [a]) : ∀ j u, (av [a])[j]? = some u → (w.alloc (.cells cs 31 fr)).cell? ((⟨n, 0, none⟩ : Addr).add j) = some u := by
  rw [← h]
  exact lit_cells w cs _ fr n hn
/-- append(v, a) of one address: a step of the walk. -/
theorem wpList_abuf {ops : Array Oper} {rest : List Oper} {o : Oper} {a : Act} {Q : Exit → Act → World → Prop} (B : Nat) (w : World) (hgd : o.guard = none) (s x : Operand)
    (ho : o.op = .call { callee := .builtin .append, args := #[s, x], argTypes := #[26, 26] }) (v : Value) (l : List Ad) (r : Ad) (hs : a.eval s = v) (hbuf : ABuf B w v l)
    (ad : Addr) (c : Nat) (hx : a.eval x = .slice (some ad) 1 c) (hnews : ∀ j u, (av [r])[j]? = some u → w.cell? (ad.add j) = some u) (hlen : l.length ≤ 1000000000)
    (h : ∀ v' w', ABuf B w' v' (l ++ [r]) → Below B w w' → wpList Tryd.prog ops Q rest (a.put o.dst v') w') : wpList Tryd.prog ops Q (o :: rest) a w := by
  refine wpList_gbuf B w hgd s x 26 31 3 48 _ ho Tryd.underlying26 info_addr rfl (by decide) v l.length (av l) hs hbuf ad 1 c (av [r]) hx rfl hnews (av_one [r]) (by unfold maxLen; omega) (by omega) ?_
  intro v' w' h1 h2
  refine h v' w' ?_ h2
  unfold ABuf
  rw [av_append, List.length_append]
  exact h1

set_option maxHeartbeats 4000000 in
theorem list_any (F g : Nat) (s : List UInt8) (w : World) (R : List Ad) (E : Int) (hR : lst F g [] s = some (R, E)) (hG : GoodA w) (h0 : 0 < w.heap.size) (ha : Ascii s) (hF : F ≤ 1000000) (hg : g ≤ 1000000) (hs : s.length ≤ 1000000) :
    Calls Tryd.prog 8 #[.string (str s)] w fun e w' => ∃ v, e = .returned (.tuple #[v, .int .i64 E]) ∧ ABuf w.heap.size w' v R ∧ Below w.heap.size w w' := by
  have HR := hid hR
  have HG := hid hG
  have R0 : Hid (RdAt (w.alloc (.cells #[.string (str s)] 42)) w.heap.size s) := hid (heap_alloc_new w _)
  have L0 : Hid (Below w.heap.size w (w.alloc (.cells #[.string (str s)] 42))) := hid ((Below.refl _ _).alloc (Nat.le_refl _) _)
  have HA := hid ha
  clear hR hG ha
  go_enter Tryd.func8, Tryd.ntmps8
  go_wp2_with fail
  go_loopw [4, 6] (fun v4 v6 wr => ∃ (acc : List Ad) (more : Bool), v6 = .bool more ∧ acc.length ≤ F ∧ ABuf (w.heap.size + 1) wr v4 acc ∧ Below w.heap.size w wr ∧ ((more = true ∧ ∃ (f : Nat) (r : List UInt8), f + acc.length = F ∧ lst f g acc r = some (R, E) ∧ RdAt wr w.heap.size r ∧ Ascii r ∧ r.length ≤ 1000000) ∨ (more = false ∧ (R, E) = fin acc))) (fun v4 _ _ => F + 1 - lenOf v4)
  case atStart => exact ⟨[], true, rfl, Nat.zero_le _, ABuf.nil (by simp), L0.out, .inl ⟨rfl, F, s, by simp, HR.out, R0.out, HA.out, hs⟩⟩
  case round =>
    obtain ⟨acc, more, rfl, hacc, hbuf, hbel, hmore⟩ := hrel
    obtain ⟨A4, c4, rfl, hc4, -, -⟩ := hbuf.full
    have HB := hid hbuf
    have HL := hid hbel
    clear hbuf hbel
    rcases hmore with ⟨rfl, f, r, hf, hl, hrd, hra, hrl⟩ | ⟨rfl, hfin⟩
    · cases f with
      | zero => cases hl
      | succ f =>
      have HRD := hid hrd
      have HRA := hid hra
      have hl2 : (match one g r with
        | none => none
        | some none => some ([], 90)
        | some (some (a, [])) => some (fin (acc ++ [a]))
        | some (some (a, c :: t)) => if c = 44 then lst f g (acc ++ [a]) t else some ([], 90)) = some (R, E) := hl
      clear hrd hra hl
      cases ho : one g r with
      | none => rw [ho] at hl2; cases hl2
      | some O =>
      rw [ho] at hl2
      have hone := fun W h G => one_any g w.heap.size r W O ho h G h0 HRA.out hg hrl
      cases O with
      | none =>
        have hq : some ([], 90) = some (R, E) := hl2
        simp only [Option.some.injEq, Prod.mk.injEq] at hq
        obtain ⟨rfl, rfl⟩ := hq
        clear hl2 ho
        go_wp2_with (first
          | (go_at_call 17; refine (hone _ HRD.out (HG.out.below HL.out)).mono ?_; rintro e w2 ⟨a2, ok, t2, rfl, r2, o2, hok⟩; obtain ⟨bn, bl, bd⟩ := a2; dsimp only [adV]; obtain rfl : ok = false := hok; have hcp := fun W => cutp_any t2 [44] W; have r3 := r2.alloc (.cells #[.string (str bn), .string (str bl), .string (str bd)] 31); have x3 := r3.c; have f3 := r3.free; have a3 := AdAt.new w2 (bn, bl, bd); have p0 := a3.c0; have p1 := a3.c1; have p2 := a3.c2; have R3 := hid r3; have A3 := hid a3; have O2 := hid o2; have N2 := hid r2.lt; have nk : w2.heap.size ≠ w.heap.size := Nat.ne_of_gt N2.out; have nk2 : w.heap.size ≠ w2.heap.size := fun h => nk h.symm; have B2 := hid (HB.out.only o2 (Nat.lt_succ_self _)); have L2 := hid ((HL.out.trans o2.low).alloc (Nat.le_trans HL.out.size o2.size) (.cells #[.string (str bn), .string (str bl), .string (str bd)] 31)); clear r2 o2 r3 a3)
          | (go_at_call 18; refine (hcp _).mono ?_; rintro e w4 ⟨rfl, rfl⟩))
        refine bodyPost_ret (v := .tuple #[.slice none 0 0, .int .i64 90]) (by simp [results, Tryd.results8, go_sem]) rfl ⟨_, rfl, ABuf.nil (by have := L2.out.size; simpa [World.setCell] using this), L2.out.setCell (p := ⟨w.heap.size, 0, none⟩) (Nat.le_refl _) _⟩
      | some q =>
        obtain ⟨⟨an, al, ad⟩, t⟩ := q
        have hsuf := one_suf ho
        have htl : t.length ≤ 1000000 := Nat.le_trans hsuf.length_le hrl
        have HTA := hid (HRA.out.suf hsuf)
        clear ho hsuf
        cases t with
        | nil =>
          have hq : some (fin (acc ++ [(an, al, ad)])) = some (R, E) := hl2
          have HFIN := hid (Option.some.inj hq).symm
          clear hl2 hq
          have hcp := fun W => cutp_any [] [44] W
          rw [show Lib.hasPrefix [] [44] = false by rfl, show Lib.trimPrefix [] [44] = [] by rfl] at hcp
          go_wp2_with (first
            | (go_at_call 17; refine (hone _ HRD.out (HG.out.below HL.out)).mono ?_; rintro e w2 ⟨a2, ok, t2, rfl, r2, o2, hok⟩; obtain ⟨bn, bl, bd⟩ := a2; dsimp only [adV]; obtain ⟨hx, rfl, rfl⟩ := hok; simp only [Prod.mk.injEq] at hx; obtain ⟨rfl, rfl, rfl⟩ := hx; have r3 := r2.alloc (.cells #[.string (str bn), .string (str bl), .string (str bd)] 31); have x3 := r3.c; have f3 := r3.free; have a3 := AdAt.new w2 (bn, bl, bd); have p0 := a3.c0; have p1 := a3.c1; have p2 := a3.c2; have R3 := hid r3; have A3 := hid a3; have O2 := hid o2; have N2 := hid r2.lt; have nk : w2.heap.size ≠ w.heap.size := Nat.ne_of_gt N2.out; have nk2 : w.heap.size ≠ w2.heap.size := fun h => nk h.symm; have B2 := hid (HB.out.only o2 (Nat.lt_succ_self _)); have L2 := hid ((HL.out.trans o2.low).alloc (Nat.le_trans HL.out.size o2.size) (.cells #[.string (str bn), .string (str bl), .string (str bd)] 31)); clear r2 o2 r3 a3)
            | (go_at_call 18; refine (hcp _).mono ?_; rintro e w4 ⟨rfl, rfl⟩)
            | (at_builtin; refine wpList_abuf (w.heap.size + 1) _ rfl _ _ rfl _ acc (bn, bl, bd) rfl (((B2.out.alloc _).only (Only.set _ _ _ _) (Nat.lt_succ_self _)).alloc _) _ 1 rfl (alit _ (bn, bl, bd) _ _ _ (by first | rfl | simp) rfl) (by omega) ?_; intro v5 w5 hb5 he5; have B5 := hid hb5; have E5 := hid he5; have R5 := hid (((R3.out.set []).alloc (.cells #[.string (str bn), .string (str bl), .string (str bd)] 31)).below' he5 (Nat.lt_succ_self _)); have L5 := hid (((L2.out.setCell (p := ⟨w.heap.size, 0, none⟩) (Nat.le_refl _) (.string (str []))).alloc (by have := L2.out.size; simpa [World.setCell] using this) (.cells #[.string (str bn), .string (str bl), .string (str bd)] 31)).trans (he5.mono (Nat.le_succ _))); clear hb5 he5))
          obtain ⟨A6, c6, rfl, hc6, -, -⟩ := B5.out.full
          go_roundw
          case rel => exact ⟨acc ++ [(bn, bl, bd)], false, rfl, by simp; omega, B5.out, L5.out, .inr ⟨rfl, HFIN.out⟩⟩
          case measure => simp [lenOf]; omega
        | cons c t =>
          have hq : (if c = 44 then lst f g (acc ++ [(an, al, ad)]) t else some ([], 90)) = some (R, E) := hl2
          clear hl2
          by_cases hc : c = 44
          · subst hc
            rw [if_pos rfl] at hq
            have HQ := hid hq
            clear hq
            have hcp := fun W => cutp_any (44 :: t) [44] W
            rw [show Lib.hasPrefix (44 :: t) [44] = true by simp [Lib.hasPrefix, List.isPrefixOf], show Lib.trimPrefix (44 :: t) [44] = t by simp [Lib.trimPrefix, Lib.hasPrefix, List.isPrefixOf]] at hcp
            go_wp2_with (first
              | (go_at_call 17; refine (hone _ HRD.out (HG.out.below HL.out)).mono ?_; rintro e w2 ⟨a2, ok, t2, rfl, r2, o2, hok⟩; obtain ⟨bn, bl, bd⟩ := a2; dsimp only [adV]; obtain ⟨hx, rfl, rfl⟩ := hok; simp only [Prod.mk.injEq] at hx; obtain ⟨rfl, rfl, rfl⟩ := hx; have r3 := r2.alloc (.cells #[.string (str bn), .string (str bl), .string (str bd)] 31); have x3 := r3.c; have f3 := r3.free; have a3 := AdAt.new w2 (bn, bl, bd); have p0 := a3.c0; have p1 := a3.c1; have p2 := a3.c2; have R3 := hid r3; have A3 := hid a3; have O2 := hid o2; have N2 := hid r2.lt; have nk : w2.heap.size ≠ w.heap.size := Nat.ne_of_gt N2.out; have nk2 : w.heap.size ≠ w2.heap.size := fun h => nk h.symm; have B2 := hid (HB.out.only o2 (Nat.lt_succ_self _)); have L2 := hid ((HL.out.trans o2.low).alloc (Nat.le_trans HL.out.size o2.size) (.cells #[.string (str bn), .string (str bl), .string (str bd)] 31)); clear r2 o2 r3 a3)
              | (go_at_call 18; refine (hcp _).mono ?_; rintro e w4 ⟨rfl, rfl⟩)
              | (at_builtin; refine wpList_abuf (w.heap.size + 1) _ rfl _ _ rfl _ acc (bn, bl, bd) rfl (((B2.out.alloc _).only (Only.set _ _ _ _) (Nat.lt_succ_self _)).alloc _) _ 1 rfl (alit _ (bn, bl, bd) _ _ _ (by first | rfl | simp) rfl) (by omega) ?_; intro v5 w5 hb5 he5; have B5 := hid hb5; have E5 := hid he5; have R5 := hid (((R3.out.set t).alloc (.cells #[.string (str bn), .string (str bl), .string (str bd)] 31)).below' he5 (Nat.lt_succ_self _)); have L5 := hid (((L2.out.setCell (p := ⟨w.heap.size, 0, none⟩) (Nat.le_refl _) (.string (str t))).alloc (by have := L2.out.size; simpa [World.setCell] using this) (.cells #[.string (str bn), .string (str bl), .string (str bd)] 31)).trans (he5.mono (Nat.le_succ _))); clear hb5 he5))
            obtain ⟨A6, c6, rfl, hc6, -, -⟩ := B5.out.full
            go_roundw
            case rel => exact ⟨acc ++ [(bn, bl, bd)], true, rfl, by simp; omega, B5.out, L5.out, .inl ⟨rfl, f, t, by simp; omega, HQ.out, R5.out, fun x hx => HTA.out x (by simp [hx]), by simp at htl; omega⟩⟩
            case measure => simp [lenOf]; omega
          · rw [if_neg hc] at hq
            simp only [Option.some.injEq, Prod.mk.injEq] at hq
            obtain ⟨rfl, rfl⟩ := hq
            have hne : (44 == c) = false := by rw [beq_eq_false_iff_ne]; exact fun e => hc e.symm
            have e9 : ((c :: t) == []) = false := rfl
            have hcp := fun W => cutp_any (c :: t) [44] W
            rw [show Lib.hasPrefix (c :: t) [44] = false by simp [Lib.hasPrefix, List.isPrefixOf, hne], show Lib.trimPrefix (c :: t) [44] = (c :: t) by simp [Lib.trimPrefix, Lib.hasPrefix, List.isPrefixOf, hne]] at hcp
            clear hc hne
            go_wp2_with (first
              | (go_at_call 17; refine (hone _ HRD.out (HG.out.below HL.out)).mono ?_; rintro e w2 ⟨a2, ok, t2, rfl, r2, o2, hok⟩; obtain ⟨bn, bl, bd⟩ := a2; dsimp only [adV]; obtain ⟨hx, rfl, rfl⟩ := hok; simp only [Prod.mk.injEq] at hx; obtain ⟨rfl, rfl, rfl⟩ := hx; have r3 := r2.alloc (.cells #[.string (str bn), .string (str bl), .string (str bd)] 31); have x3 := r3.c; have f3 := r3.free; have a3 := AdAt.new w2 (bn, bl, bd); have p0 := a3.c0; have p1 := a3.c1; have p2 := a3.c2; have R3 := hid r3; have A3 := hid a3; have O2 := hid o2; have N2 := hid r2.lt; have nk : w2.heap.size ≠ w.heap.size := Nat.ne_of_gt N2.out; have nk2 : w.heap.size ≠ w2.heap.size := fun h => nk h.symm; have B2 := hid (HB.out.only o2 (Nat.lt_succ_self _)); have L2 := hid ((HL.out.trans o2.low).alloc (Nat.le_trans HL.out.size o2.size) (.cells #[.string (str bn), .string (str bl), .string (str bd)] 31)); clear r2 o2 r3 a3)
              | (go_at_call 18; refine (hcp _).mono ?_; rintro e w4 ⟨rfl, rfl⟩))
            refine bodyPost_ret (v := .tuple #[.slice none 0 0, .int .i64 90]) (by simp [results, Tryd.results8, go_sem]) rfl ⟨_, rfl, ABuf.nil (by have := L2.out.size; simpa [World.setCell] using this), L2.out.setCell (p := ⟨w.heap.size, 0, none⟩) (Nat.le_refl _) _⟩
    · cases hq : fin acc with
      | mk R' E' =>
      rw [hq] at hfin
      simp only [Prod.mk.injEq] at hfin
      obtain ⟨rfl, rfl⟩ := hfin
      unfold fin at hq
      by_cases h16 : 16 < acc.length
      · rw [if_pos h16] at hq
        simp only [Prod.mk.injEq] at hq
        obtain ⟨rfl, rfl⟩ := hq
        go_wp2_with fail
        refine bodyPost_ret (v := .tuple #[.slice none 0 0, .int .i64 5]) (by simp [results, Tryd.results8, go_sem]) rfl ⟨_, rfl, ABuf.nil HL.out.size, HL.out⟩
      · rw [if_neg h16] at hq
        simp only [Prod.mk.injEq] at hq
        obtain ⟨rfl, rfl⟩ := hq
        go_wp2_with fail
        refine bodyPost_ret (v := .tuple #[.slice A4 acc.length c4, .int .i64 0]) (by simp [results, Tryd.results8, go_sem]) rfl ⟨_, rfl, HB.out.mono (Nat.le_succ _), HL.out⟩

end Go.Proofs.YtmgndnbcaeepcaaDoor
