/-
  ImaplineTexts: the walk.
-/
import Derived.Test.YtfdmdmahddjjmaaGreatDoorKImZ
import Derived.Test.YtfdmdmahddjjmaaGreatDoorKTextsQ
import Derived.Test.YtfdmdmahddjjmaaGreatDoorPkOwn
namespace Go.Proofs.YtfdmdmahddjjmaaGreatDoor
open Go.RowKit Own Im
set_option linter.unusedVariables false
set_option linter.unusedSimpArgs false
set_option maxRecDepth 100000
theorem buf_first {B : Nat} (w : World) (hB : B ≤ w.heap.size) (o : Obj) : Buf B ((w.alloc o).alloc (.cells #[.int .u8 34] 5)) (.slice (some ⟨w.heap.size + 1, 0, none⟩) 1 1) [34] := by
  have h := Buf.lit (w.alloc o) [34] (by simp)
  have e : (w.alloc o).heap.size = w.heap.size + 1 := by simp
  rw [e] at h
  exact ⟨h.1.mono fun k hk => by omega, by simp; omega⟩
theorem esc_len (l : Bt) : (esc l).length ≤ 2 * l.length := by
  induction l with
  | nil => simp [esc]
  | cons c l ih =>
    rw [esc_cons, List.length_append, List.length_cons]
    split <;> simp <;> omega
attribute [local go_sem] str_toList str_size

attribute [local go_sem] str_toList str_size ByteArray.size_append

set_option maxHeartbeats 16000000 in
theorem texts_walk (s : List UInt8) (w : World) (hG : Gd w) (hs : s.length ≤ 2147483648) :
    Calls Tryz.prog 7 #[.string (str s)] w fun e w' => e = .returned (.bool true) ∧ Below w.heap.size w w' := by
  have HG := hid hG
  clear hG
  have hsz := str_size s
  by_cases h4 : 4096 < s.length
  · have h4' : (4096 : Int) < (s.length : Int) := by omega
    go_enter Tryz.func7, Tryz.ntmps7
    go_wp2_with (go_at_call 8; refine (shown_any w HG.out).mono ?_; rintro e w1 ⟨rfl, c1⟩; have b1 := hid c1; clear c1)
    go_ret
    exact ⟨rfl, b1.out⟩
  have h4' : (s.length : Int) ≤ 4096 := by omega
  have hdg := fun W => digits_any s.length W (by omega)
  have hdl := Dec.digs_len10 (n := s.length) (by omega)
  have hp1 := parse_lit s (by omega)
  have hf1 := form_of (create_form (123 :: Text.digs s.length ++ [125, 13, 10] ++ s)) box_any
  obtain ⟨D, hD⟩ : ∃ D, D = Text.digs s.length := ⟨_, rfl⟩
  rw [← hD] at hdg hdl hp1 hf1
  have t1 : ({ data := #[116, 32, 67, 82, 69, 65, 84, 69, 32, 123] } : ByteArray) ++ str D = str (createP ++ [123] ++ D) := by rw [← str_append]; rfl
  have t2 : str (createP ++ [123] ++ D) ++ { data := #[125, 13, 10] } = str (createP ++ [123] ++ D ++ [125, 13, 10]) := by rw [show ({ data := #[125, 13, 10] } : ByteArray) = str [125, 13, 10] from rfl, str_append]
  have t3 : str (createP ++ [123] ++ D ++ [125, 13, 10]) ++ str s = str (createP ++ [123] ++ D ++ [125, 13, 10] ++ s) := str_append _ _
  have hL1 : createP ++ [123] ++ D ++ [125, 13, 10] ++ s = createP ++ (123 :: D ++ [125, 13, 10] ++ s) := by simp
  obtain ⟨L1, hL1'⟩ : ∃ L, L = createP ++ [123] ++ D ++ [125, 13, 10] ++ s := ⟨_, rfl⟩
  obtain ⟨M1, hM1⟩ : ∃ L, L = createP ++ [123] ++ D := ⟨_, rfl⟩
  obtain ⟨M2, hM2⟩ : ∃ L, L = createP ++ [123] ++ D ++ [125, 13, 10] := ⟨_, rfl⟩
  rw [← hM2] at t2 t3
  rw [← hM1] at t1 t2
  have l1 : L1.length ≤ 100000000 := by rw [hL1']; simp; omega
  have m1 : M1.length ≤ 100 := by rw [hM1]; simp; omega
  have m2 : M2.length ≤ 100 := by rw [hM2]; simp; omega
  rw [← hL1, ← hL1'] at hp1 hf1
  replace t3 : str M2 ++ str s = str L1 := by rw [hL1', ← hM2]; exact t3
  have HP1 := hid hp1
  have HF1 := hid hf1
  have hf3 := form_of (create_form s) box_any
  have t5 : ({ data := #[116, 32, 67, 82, 69, 65, 84, 69, 32] } : ByteArray) ++ str s = str (createP ++ s) := by rw [← str_append]; rfl
  obtain ⟨C3, N3, hp3⟩ : ∃ C N, parseS (createP ++ s) = (C, N) := ⟨_, _, rfl⟩
  have hpl : (decide (0 < s.length) && s.all plainB) = true → C3 = { tag := [116], word := [67, 82, 69, 65, 84, 69], box := s } ∧ N3 = 0 := by
    intro h
    simp only [Bool.and_eq_true, decide_eq_true_eq] at h
    have := parse_atom s (by intro e; rw [e] at h; simp at h) h.2
    rw [hp3] at this
    exact Prod.mk.inj this
  have HPL := hid hpl
  obtain ⟨L3, hL3⟩ : ∃ L, L = createP ++ s := ⟨_, rfl⟩
  have l3 : L3.length ≤ 100000000 := by rw [hL3]; simp; omega
  rw [← hL3] at t5 hp3 hf3
  have HP3 := hid hp3
  have HF3 := hid hf3
  have Nstr : (s != s) = false := by simp
  have Estr : (s == s) = true := by simp
  clear hD hp1 hf1 hp3 hf3 hL1 hL1' hM1 hM2 hL3 hpl
  have tok0 : Tk 0 := ⟨⟩
  go_enter Tryz.func7, Tryz.ntmps7
  go_wp2_with (first
    | (go_at_call 8; refine (shown_any w HG.out).mono ?_; rintro e w1 ⟨rfl, c1⟩; have b1 := hid c1; clear c1)
    | (go_at_call 14; refine (hdg _).mono ?_; rintro e w2 ⟨rfl, c2⟩; have b2 := hid (below_then b1.out c2); clear c2)
    | (go_at_call 10; have t_ : Tk 0 := ‹Tk 0›; refine (parse_any L1 _ (HG.out.below b2.out) (by omega) HF1.out).mono ?_; intro e w31 hp; rw [HP1.out] at hp; obtain ⟨⟨vs, vn, vi, vk, vl⟩, rfl, hr, hb⟩ := hp; obtain ⟨As1, ks1, hvs, -, -⟩ := hr.set.full; dsimp only at hvs; subst hvs; obtain ⟨An1, kn1, hvn, -, -, -⟩ := hr.names.full; dsimp only at hvn; subst hvn; obtain ⟨Ai1, ki1, hvi, -, -, -⟩ := hr.items.choose_spec.1.full; dsimp only at hvi; subst hvi; obtain ⟨Ak1, kk1, hvk, -, -, -⟩ := hr.keys.choose_spec.1.full; dsimp only at hvk; subst hvk; obtain ⟨Al1, kl1, hvl, -, -, -⟩ := hr.lit.full; dsimp only at hvl; subst hvl; have b31 := hid (below_then b2.out hb); clear hr hb; dsimp only [cmC] <;> (clear t_ tok0; have tok1 : Tk 1 := ⟨⟩)))
  go_loopw [6, 7, 8, 9] (fun v6 v7 v8 v9 wr => ∃ i : Nat, i ≤ s.length ∧ v6 = .bool (lineB (s.take i)) ∧ v7 = .bool (decide (0 < s.length) && (s.take i).all plainB) ∧ Buf w.heap.size wr v8 (34 :: esc (s.take i)) ∧ v9 = .int .i64 i ∧ Below w.heap.size w wr) (fun _ _ _ v9 _ => s.length - (intOf v9).toNat)
  case atStart => exact ⟨0, Nat.zero_le _, rfl, by simp, buf_first w31 b31.out.size _, rfl, (b31.out.alloc b31.out.size _).alloc (by have := b31.out.size; simp; omega) _⟩
  case round =>
    obtain ⟨i, hi, rfl, rfl, hbuf, rfl, hbel⟩ := hrel
    have HBUF := hid hbuf
    have HBE := hid hbel
    clear hbuf hbel
    by_cases hil : i < s.length
    · have e1 : decide ((i : Int) < s.length) = true := decide_eq_true (by omega)
      obtain ⟨c, hc⟩ : ∃ c, s[i]? = some c := ⟨s[i], List.getElem?_eq_getElem hil⟩
      have hix : ∀ h, (str s)[i]'h = c := by
        intro h
        obtain ⟨h1, h2⟩ := List.getElem?_eq_some_iff.1 hc
        exact h2
      have htk := take_next hc
      have hln : lineB (s.take (i + 1)) = (lineB (s.take i) && (!decide (c = 13) && !decide (c = 10))) := by rw [htk]; unfold lineB; rw [List.all_append]; simp
      have hpn : (decide (0 < s.length) && (s.take (i + 1)).all plainB) = ((decide (0 < s.length) && (s.take i).all plainB) && plainB c) := by rw [htk, List.all_append]; simp [Bool.and_assoc]
      have hen : esc (s.take (i + 1)) = esc (s.take i) ++ (if c = 34 ∨ c = 92 then [92, c] else [c]) := by rw [htk]; simp [esc]
      have hel : (esc (s.take i)).length ≤ 8192 := by
        have := esc_len (s.take i)
        have : (s.take i).length ≤ s.length := by simp; omega
        omega
      obtain ⟨E, hE⟩ : ∃ E, E = esc (s.take i) := ⟨_, rfl⟩
      obtain ⟨la, hla⟩ : ∃ la, la = lineB (s.take i) := ⟨_, rfl⟩
      obtain ⟨pa, hpa⟩ : ∃ pa, pa = (decide (0 < s.length) && (s.take i).all plainB) := ⟨_, rfl⟩
      rw [← hE] at hen hel HBUF
      rw [← hla] at hln ⊢
      rw [← hpa] at hpn ⊢
      have HEL := hid hel
      clear hE hla hpa htk hc hel
      rcases cls c with ⟨K, hk, hp⟩ | ⟨K, hk, hp⟩ | ⟨K, hk, hp⟩ | ⟨K, hk, hp⟩ | ⟨K, ⟨hk, hp⟩ | ⟨hk, hp⟩ | ⟨hk, hp⟩ | ⟨hk, hp⟩ | ⟨hk, hp⟩⟩
      · obtain ⟨n13, n10, e34, e92, hl, hb⟩ := K
        have d97 : decide (97 ≤ (c.toNat : Int)) = false := decide_eq_false (by omega)
        have d122 : decide ((c.toNat : Int) ≤ 122) = true := decide_eq_true (by omega)
        have d48 : decide (48 ≤ (c.toNat : Int)) = false := decide_eq_false (by omega)
        have d57 : decide ((c.toNat : Int) ≤ 57) = true := decide_eq_true (by omega)
        rw [hl] at hln
        rw [hp] at hpn
        have hfin : 34 :: esc (s.take (i + 1)) = 34 :: E ++ [c] := by rw [hen, if_neg (of_decide_eq_false hb)]; rfl
        have HLN := hid hln
        have HPN := hid hpn
        have HF := hid hfin
        have HEL2 := HEL.out
        clear hln hpn hfin hb hl hen hk hp
        cases la <;> cases pa
        all_goals
          have tok0 : Tk 0 := ⟨⟩
          go_wp2_with ((at_builtin; refine wpList_buf w.heap.size _ rfl _ _ rfl u8 (34 :: E) [c] rfl (HBUF.out.alloc _) _ 1 1 rfl rfl (one_src wr c _ rfl) (by simp; omega) ?_; intro v' w1 hr1 hb1))
          go_roundw
          case rel => (repeat apply Exists.intro); exact ⟨⟨i + 1, by omega, by rw [HLN.out]; rfl, by rw [HPN.out]; rfl, by rw [HF.out]; exact hr1, by simp, (HBE.out.alloc HBUF.out.2 _).trans hb1⟩, rfl⟩
          case measure => simp [intOf]; omega
      · obtain ⟨n13, n10, e34, e92, hl, hb⟩ := K
        have d97 : decide (97 ≤ (c.toNat : Int)) = false := decide_eq_false (by omega)
        have d122 : decide ((c.toNat : Int) ≤ 122) = true := decide_eq_true (by omega)
        have d48 : decide (48 ≤ (c.toNat : Int)) = false := decide_eq_false (by omega)
        have d57 : decide ((c.toNat : Int) ≤ 57) = true := decide_eq_true (by omega)
        rw [hl] at hln
        rw [hp] at hpn
        have hfin : 34 :: esc (s.take (i + 1)) = 34 :: E ++ [c] := by rw [hen, if_neg (of_decide_eq_false hb)]; rfl
        have HLN := hid hln
        have HPN := hid hpn
        have HF := hid hfin
        have HEL2 := HEL.out
        clear hln hpn hfin hb hl hen hk hp
        cases la <;> cases pa
        all_goals
          have tok0 : Tk 0 := ⟨⟩
          go_wp2_with ((at_builtin; refine wpList_buf w.heap.size _ rfl _ _ rfl u8 (34 :: E) [c] rfl (HBUF.out.alloc _) _ 1 1 rfl rfl (one_src wr c _ rfl) (by simp; omega) ?_; intro v' w1 hr1 hb1))
          go_roundw
          case rel => (repeat apply Exists.intro); exact ⟨⟨i + 1, by omega, by rw [HLN.out]; rfl, by rw [HPN.out]; rfl, by rw [HF.out]; exact hr1, by simp, (HBE.out.alloc HBUF.out.2 _).trans hb1⟩, rfl⟩
          case measure => simp [intOf]; omega
      · obtain ⟨n13, n10, e34, e92, hl, hb⟩ := K
        have d97 : decide (97 ≤ (c.toNat : Int)) = false := decide_eq_false (by omega)
        have d122 : decide ((c.toNat : Int) ≤ 122) = true := decide_eq_true (by omega)
        have d48 : decide (48 ≤ (c.toNat : Int)) = false := decide_eq_false (by omega)
        have d57 : decide ((c.toNat : Int) ≤ 57) = true := decide_eq_true (by omega)
        rw [hl] at hln
        rw [hp] at hpn
        have hfin : 34 :: esc (s.take (i + 1)) = (34 :: E ++ [92]) ++ [c] := by rw [hen, if_pos (of_decide_eq_true hb)]; simp
        have HLN := hid hln
        have HPN := hid hpn
        have HF := hid hfin
        have HEL2 := HEL.out
        clear hln hpn hfin hb hl hen hk hp
        cases la <;> cases pa
        all_goals
          have tok0 : Tk 0 := ⟨⟩
          go_wp2_with (first
            | (at_builtin; have t_ : Tk 0 := ‹Tk 0›; refine wpList_buf w.heap.size _ rfl _ _ rfl u8 (34 :: E) [92] rfl (HBUF.out.alloc _) _ 1 1 rfl rfl (one_src wr 92 92 rfl) (by simp; omega) ?_; intro v' w1 hr1 hb1; clear t_; clear tok0; have tok1 : Tk 1 := ⟨⟩)
            | (at_builtin; have t_ : Tk 1 := ‹Tk 1›; refine wpList_buf w.heap.size _ rfl _ _ rfl v' (34 :: E ++ [92]) [c] rfl (hr1.alloc _) _ 1 1 rfl rfl (one_src w1 c _ rfl) (by simp; omega) ?_; intro v'' w2 hr2 hb2; clear t_; clear tok1; have tok2 : Tk 2 := ⟨⟩))
          go_roundw
          case rel => (repeat apply Exists.intro); exact ⟨⟨i + 1, by omega, by rw [HLN.out]; rfl, by rw [HPN.out]; rfl, by rw [HF.out]; exact hr2, by simp, (((HBE.out.alloc HBUF.out.2 _).trans hb1).alloc hr1.2 _).trans hb2⟩, rfl⟩
          case measure => simp [intOf]; omega
      · obtain ⟨n13, n10, e34, e92, hl, hb⟩ := K
        have d97 : decide (97 ≤ (c.toNat : Int)) = false := decide_eq_false (by omega)
        have d122 : decide ((c.toNat : Int) ≤ 122) = true := decide_eq_true (by omega)
        have d48 : decide (48 ≤ (c.toNat : Int)) = true := decide_eq_true (by omega)
        have d57 : decide ((c.toNat : Int) ≤ 57) = false := decide_eq_false (by omega)
        rw [hl] at hln
        rw [hp] at hpn
        have hfin : 34 :: esc (s.take (i + 1)) = (34 :: E ++ [92]) ++ [c] := by rw [hen, if_pos (of_decide_eq_true hb)]; simp
        have HLN := hid hln
        have HPN := hid hpn
        have HF := hid hfin
        have HEL2 := HEL.out
        clear hln hpn hfin hb hl hen hk hp
        cases la <;> cases pa
        all_goals
          have tok0 : Tk 0 := ⟨⟩
          go_wp2_with (first
            | (at_builtin; have t_ : Tk 0 := ‹Tk 0›; refine wpList_buf w.heap.size _ rfl _ _ rfl u8 (34 :: E) [92] rfl (HBUF.out.alloc _) _ 1 1 rfl rfl (one_src wr 92 92 rfl) (by simp; omega) ?_; intro v' w1 hr1 hb1; clear t_; clear tok0; have tok1 : Tk 1 := ⟨⟩)
            | (at_builtin; have t_ : Tk 1 := ‹Tk 1›; refine wpList_buf w.heap.size _ rfl _ _ rfl v' (34 :: E ++ [92]) [c] rfl (hr1.alloc _) _ 1 1 rfl rfl (one_src w1 c _ rfl) (by simp; omega) ?_; intro v'' w2 hr2 hb2; clear t_; clear tok1; have tok2 : Tk 2 := ⟨⟩))
          go_roundw
          case rel => (repeat apply Exists.intro); exact ⟨⟨i + 1, by omega, by rw [HLN.out]; rfl, by rw [HPN.out]; rfl, by rw [HF.out]; exact hr2, by simp, (((HBE.out.alloc HBUF.out.2 _).trans hb1).alloc hr1.2 _).trans hb2⟩, rfl⟩
          case measure => simp [intOf]; omega
      · obtain ⟨n13, n10, e34, e92, hl, hb⟩ := K
        have d97 : decide (97 ≤ (c.toNat : Int)) = false := decide_eq_false (by omega)
        have d122 : decide ((c.toNat : Int) ≤ 122) = true := decide_eq_true (by omega)
        have d48 : decide (48 ≤ (c.toNat : Int)) = false := decide_eq_false (by omega)
        have d57 : decide ((c.toNat : Int) ≤ 57) = true := decide_eq_true (by omega)
        rw [hl] at hln
        rw [hp] at hpn
        have hfin : 34 :: esc (s.take (i + 1)) = 34 :: E ++ [c] := by rw [hen, if_neg (of_decide_eq_false hb)]; rfl
        have HLN := hid hln
        have HPN := hid hpn
        have HF := hid hfin
        have HEL2 := HEL.out
        clear hln hpn hfin hb hl hen hk hp
        cases la <;> cases pa
        all_goals
          have tok0 : Tk 0 := ⟨⟩
          go_wp2_with ((at_builtin; refine wpList_buf w.heap.size _ rfl _ _ rfl u8 (34 :: E) [c] rfl (HBUF.out.alloc _) _ 1 1 rfl rfl (one_src wr c _ rfl) (by simp; omega) ?_; intro v' w1 hr1 hb1))
          go_roundw
          case rel => (repeat apply Exists.intro); exact ⟨⟨i + 1, by omega, by rw [HLN.out]; rfl, by rw [HPN.out]; rfl, by rw [HF.out]; exact hr1, by simp, (HBE.out.alloc HBUF.out.2 _).trans hb1⟩, rfl⟩
          case measure => simp [intOf]; omega
      · obtain ⟨n13, n10, e34, e92, hl, hb⟩ := K
        have d97 : decide (97 ≤ (c.toNat : Int)) = false := decide_eq_false (by omega)
        have d122 : decide ((c.toNat : Int) ≤ 122) = true := decide_eq_true (by omega)
        have d48 : decide (48 ≤ (c.toNat : Int)) = true := decide_eq_true (by omega)
        have d57 : decide ((c.toNat : Int) ≤ 57) = true := decide_eq_true (by omega)
        rw [hl] at hln
        rw [hp] at hpn
        have hfin : 34 :: esc (s.take (i + 1)) = 34 :: E ++ [c] := by rw [hen, if_neg (of_decide_eq_false hb)]; rfl
        have HLN := hid hln
        have HPN := hid hpn
        have HF := hid hfin
        have HEL2 := HEL.out
        clear hln hpn hfin hb hl hen hk hp
        cases la <;> cases pa
        all_goals
          have tok0 : Tk 0 := ⟨⟩
          go_wp2_with ((at_builtin; refine wpList_buf w.heap.size _ rfl _ _ rfl u8 (34 :: E) [c] rfl (HBUF.out.alloc _) _ 1 1 rfl rfl (one_src wr c _ rfl) (by simp; omega) ?_; intro v' w1 hr1 hb1))
          go_roundw
          case rel => (repeat apply Exists.intro); exact ⟨⟨i + 1, by omega, by rw [HLN.out]; rfl, by rw [HPN.out]; rfl, by rw [HF.out]; exact hr1, by simp, (HBE.out.alloc HBUF.out.2 _).trans hb1⟩, rfl⟩
          case measure => simp [intOf]; omega
      · obtain ⟨n13, n10, e34, e92, hl, hb⟩ := K
        have d97 : decide (97 ≤ (c.toNat : Int)) = false := decide_eq_false (by omega)
        have d122 : decide ((c.toNat : Int) ≤ 122) = true := decide_eq_true (by omega)
        have d48 : decide (48 ≤ (c.toNat : Int)) = true := decide_eq_true (by omega)
        have d57 : decide ((c.toNat : Int) ≤ 57) = false := decide_eq_false (by omega)
        rw [hl] at hln
        rw [hp] at hpn
        have hfin : 34 :: esc (s.take (i + 1)) = 34 :: E ++ [c] := by rw [hen, if_neg (of_decide_eq_false hb)]; rfl
        have HLN := hid hln
        have HPN := hid hpn
        have HF := hid hfin
        have HEL2 := HEL.out
        clear hln hpn hfin hb hl hen hk hp
        cases la <;> cases pa
        all_goals
          have tok0 : Tk 0 := ⟨⟩
          go_wp2_with ((at_builtin; refine wpList_buf w.heap.size _ rfl _ _ rfl u8 (34 :: E) [c] rfl (HBUF.out.alloc _) _ 1 1 rfl rfl (one_src wr c _ rfl) (by simp; omega) ?_; intro v' w1 hr1 hb1))
          go_roundw
          case rel => (repeat apply Exists.intro); exact ⟨⟨i + 1, by omega, by rw [HLN.out]; rfl, by rw [HPN.out]; rfl, by rw [HF.out]; exact hr1, by simp, (HBE.out.alloc HBUF.out.2 _).trans hb1⟩, rfl⟩
          case measure => simp [intOf]; omega
      · obtain ⟨n13, n10, e34, e92, hl, hb⟩ := K
        have d97 : decide (97 ≤ (c.toNat : Int)) = true := decide_eq_true (by omega)
        have d122 : decide ((c.toNat : Int) ≤ 122) = true := decide_eq_true (by omega)
        have d48 : decide (48 ≤ (c.toNat : Int)) = true := decide_eq_true (by omega)
        have d57 : decide ((c.toNat : Int) ≤ 57) = false := decide_eq_false (by omega)
        rw [hl] at hln
        rw [hp] at hpn
        have hfin : 34 :: esc (s.take (i + 1)) = 34 :: E ++ [c] := by rw [hen, if_neg (of_decide_eq_false hb)]; rfl
        have HLN := hid hln
        have HPN := hid hpn
        have HF := hid hfin
        have HEL2 := HEL.out
        clear hln hpn hfin hb hl hen hk hp
        cases la <;> cases pa
        all_goals
          have tok0 : Tk 0 := ⟨⟩
          go_wp2_with ((at_builtin; refine wpList_buf w.heap.size _ rfl _ _ rfl u8 (34 :: E) [c] rfl (HBUF.out.alloc _) _ 1 1 rfl rfl (one_src wr c _ rfl) (by simp; omega) ?_; intro v' w1 hr1 hb1))
          go_roundw
          case rel => (repeat apply Exists.intro); exact ⟨⟨i + 1, by omega, by rw [HLN.out]; rfl, by rw [HPN.out]; rfl, by rw [HF.out]; exact hr1, by simp, (HBE.out.alloc HBUF.out.2 _).trans hb1⟩, rfl⟩
          case measure => simp [intOf]; omega
      · obtain ⟨n13, n10, e34, e92, hl, hb⟩ := K
        have d97 : decide (97 ≤ (c.toNat : Int)) = true := decide_eq_true (by omega)
        have d122 : decide ((c.toNat : Int) ≤ 122) = false := decide_eq_false (by omega)
        have d48 : decide (48 ≤ (c.toNat : Int)) = true := decide_eq_true (by omega)
        have d57 : decide ((c.toNat : Int) ≤ 57) = false := decide_eq_false (by omega)
        rw [hl] at hln
        rw [hp] at hpn
        have hfin : 34 :: esc (s.take (i + 1)) = 34 :: E ++ [c] := by rw [hen, if_neg (of_decide_eq_false hb)]; rfl
        have HLN := hid hln
        have HPN := hid hpn
        have HF := hid hfin
        have HEL2 := HEL.out
        clear hln hpn hfin hb hl hen hk hp
        cases la <;> cases pa
        all_goals
          have tok0 : Tk 0 := ⟨⟩
          go_wp2_with ((at_builtin; refine wpList_buf w.heap.size _ rfl _ _ rfl u8 (34 :: E) [c] rfl (HBUF.out.alloc _) _ 1 1 rfl rfl (one_src wr c _ rfl) (by simp; omega) ?_; intro v' w1 hr1 hb1))
          go_roundw
          case rel => (repeat apply Exists.intro); exact ⟨⟨i + 1, by omega, by rw [HLN.out]; rfl, by rw [HPN.out]; rfl, by rw [HF.out]; exact hr1, by simp, (HBE.out.alloc HBUF.out.2 _).trans hb1⟩, rfl⟩
          case measure => simp [intOf]; omega
    · have e1 : decide ((i : Int) < s.length) = false := decide_eq_false (by omega)
      obtain rfl : i = s.length := by omega
      rw [List.take_length] at HBUF ⊢
      have hel := esc_len s
      have hp2 := parse_quo s
      have hf2 := form_of (create_form (34 :: esc s ++ [34])) box_any
      have hq : createP ++ (34 :: esc s ++ [34]) = createP ++ 34 :: esc s ++ [34] := (List.append_assoc createP (34 :: esc s) [34]).symm
      rw [hq] at hf2
      have hq2 : ({ data := #[116, 32, 67, 82, 69, 65, 84, 69, 32] } : ByteArray) ++ str (34 :: esc s ++ [34]) = str (createP ++ 34 :: esc s ++ [34]) := by rw [← hq, ← str_append]; rfl
      obtain ⟨Q2, hQ2⟩ : ∃ Q, 34 :: esc s ++ [34] = Q := ⟨_, rfl⟩
      obtain ⟨L2, hL2⟩ : ∃ L, L = createP ++ 34 :: esc s ++ [34] := ⟨_, rfl⟩
      have l2 : L2.length ≤ 100000000 := by rw [hL2]; simp; omega
      have lq : Q2.length ≤ 10000 := by rw [← hQ2]; simp; omega
      rw [← hL2] at hp2 hf2 hq2
      rw [hQ2] at hq2
      have QL := hid hQ2
      have HF2 := hid hf2
      clear hQ2 hL2 hf2 hq hil hi
      obtain ⟨lb, hlb⟩ : ∃ lb, lb = lineB s := ⟨_, rfl⟩
      obtain ⟨pb, hpb⟩ : ∃ pb, pb = (decide (0 < s.length) && s.all plainB) := ⟨_, rfl⟩
      rw [← hlb] at hp2 ⊢
      rw [← hpb] at HPL ⊢
      clear hlb hpb
      have tok0 : Tk 0 := ⟨⟩
      cases pb <;> cases lb
      · have hp2' : parseS L2 = ({ tag := [116] }, 160) := hp2
        have HP2 := hid hp2'
        clear hp2 hp2'
        clear HPL
        go_upto_region 22 with (first
          | (at_builtin; have t_ : Tk 0 := ‹Tk 0›; refine wpList_buf w.heap.size _ rfl _ _ rfl u8 (34 :: esc s) [34] rfl (HBUF.out.alloc _) _ 1 1 rfl rfl (one_src wr 34 34 rfl) (by simp; omega) ?_; intro v' w1 hr1 hb1; rw [QL.out] at hr1; obtain ⟨A', c', rfl, -⟩ := hr1.slice; have cv := hr1.conv; have B8 := hid ((HBE.out.alloc HBUF.out.2 _).trans hb1); clear t_ tok0; have tok1 : Tk 1 := ⟨⟩)
          | (go_at_call 10; have t_ : Tk 1 := ‹Tk 1›; refine (parse_any L2 _ (HG.out.below B8.out) (by omega) HF2.out).mono ?_; intro e w32 hp; rw [HP2.out] at hp; obtain ⟨⟨vs, vn, vi, vk, vl⟩, rfl, hr, hb⟩ := hp; obtain ⟨As2, ks2, hvs, -, -⟩ := hr.set.full; dsimp only at hvs; subst hvs; obtain ⟨An2, kn2, hvn, -, -, -⟩ := hr.names.full; dsimp only at hvn; subst hvn; obtain ⟨Ai2, ki2, hvi, -, -, -⟩ := hr.items.choose_spec.1.full; dsimp only at hvi; subst hvi; obtain ⟨Ak2, kk2, hvk, -, -, -⟩ := hr.keys.choose_spec.1.full; dsimp only at hvk; subst hvk; obtain ⟨Al2, kl2, hvl, -, -, -⟩ := hr.lit.full; dsimp only at hvl; subst hvl; have b32 := hid (below_then B8.out hb); clear hr hb; dsimp only [cmC] <;> (clear t_ tok1; have tok2 : Tk 2 := ⟨⟩)))
        go_wp2_with (go_at_call 10; have t_ : Tk 2 := ‹Tk 2›; refine (parse_any L3 _ (HG.out.below (b32.out.alloc b32.out.size _)) (by omega) HF3.out).mono ?_; intro e w33 hp; rw [HP3.out] at hp; obtain ⟨⟨vs, vn, vi, vk, vl⟩, rfl, hr, hb⟩ := hp; obtain ⟨As3, ks3, hvs, -, -⟩ := hr.set.full; dsimp only at hvs; subst hvs; obtain ⟨An3, kn3, hvn, -, -, -⟩ := hr.names.full; dsimp only at hvn; subst hvn; obtain ⟨Ai3, ki3, hvi, -, -, -⟩ := hr.items.choose_spec.1.full; dsimp only at hvi; subst hvi; obtain ⟨Ak3, kk3, hvk, -, -, -⟩ := hr.keys.choose_spec.1.full; dsimp only at hvk; subst hvk; obtain ⟨Al3, kl3, hvl, -, -, -⟩ := hr.lit.full; dsimp only at hvl; subst hvl; have b33 := hid (below_then (b32.out.alloc b32.out.size _) hb); clear hr hb; dsimp only [cmC] <;> (clear t_ tok2; have tok3 : Tk 3 := ⟨⟩))
        go_ret
        exact ⟨rfl, b33.out.alloc b33.out.size _⟩
      · have hp2' : parseS L2 = ({ tag := [116], word := [67, 82, 69, 65, 84, 69], box := s }, 0) := hp2
        have HP2 := hid hp2'
        clear hp2 hp2'
        clear HPL
        go_upto_region 22 with (first
          | (at_builtin; have t_ : Tk 0 := ‹Tk 0›; refine wpList_buf w.heap.size _ rfl _ _ rfl u8 (34 :: esc s) [34] rfl (HBUF.out.alloc _) _ 1 1 rfl rfl (one_src wr 34 34 rfl) (by simp; omega) ?_; intro v' w1 hr1 hb1; rw [QL.out] at hr1; obtain ⟨A', c', rfl, -⟩ := hr1.slice; have cv := hr1.conv; have B8 := hid ((HBE.out.alloc HBUF.out.2 _).trans hb1); clear t_ tok0; have tok1 : Tk 1 := ⟨⟩)
          | (go_at_call 10; have t_ : Tk 1 := ‹Tk 1›; refine (parse_any L2 _ (HG.out.below B8.out) (by omega) HF2.out).mono ?_; intro e w32 hp; rw [HP2.out] at hp; obtain ⟨⟨vs, vn, vi, vk, vl⟩, rfl, hr, hb⟩ := hp; obtain ⟨As2, ks2, hvs, -, -⟩ := hr.set.full; dsimp only at hvs; subst hvs; obtain ⟨An2, kn2, hvn, -, -, -⟩ := hr.names.full; dsimp only at hvn; subst hvn; obtain ⟨Ai2, ki2, hvi, -, -, -⟩ := hr.items.choose_spec.1.full; dsimp only at hvi; subst hvi; obtain ⟨Ak2, kk2, hvk, -, -, -⟩ := hr.keys.choose_spec.1.full; dsimp only at hvk; subst hvk; obtain ⟨Al2, kl2, hvl, -, -, -⟩ := hr.lit.full; dsimp only at hvl; subst hvl; have b32 := hid (below_then B8.out hb); clear hr hb; dsimp only [cmC] <;> (clear t_ tok1; have tok2 : Tk 2 := ⟨⟩)))
        go_wp2_with (go_at_call 10; have t_ : Tk 2 := ‹Tk 2›; refine (parse_any L3 _ (HG.out.below (b32.out.alloc b32.out.size _)) (by omega) HF3.out).mono ?_; intro e w33 hp; rw [HP3.out] at hp; obtain ⟨⟨vs, vn, vi, vk, vl⟩, rfl, hr, hb⟩ := hp; obtain ⟨As3, ks3, hvs, -, -⟩ := hr.set.full; dsimp only at hvs; subst hvs; obtain ⟨An3, kn3, hvn, -, -, -⟩ := hr.names.full; dsimp only at hvn; subst hvn; obtain ⟨Ai3, ki3, hvi, -, -, -⟩ := hr.items.choose_spec.1.full; dsimp only at hvi; subst hvi; obtain ⟨Ak3, kk3, hvk, -, -, -⟩ := hr.keys.choose_spec.1.full; dsimp only at hvk; subst hvk; obtain ⟨Al3, kl3, hvl, -, -, -⟩ := hr.lit.full; dsimp only at hvl; subst hvl; have b33 := hid (below_then (b32.out.alloc b32.out.size _) hb); clear hr hb; dsimp only [cmC] <;> (clear t_ tok2; have tok3 : Tk 3 := ⟨⟩))
        go_ret
        exact ⟨rfl, b33.out.alloc b33.out.size _⟩
      · have hp2' : parseS L2 = ({ tag := [116] }, 160) := hp2
        have HP2 := hid hp2'
        clear hp2 hp2'
        obtain ⟨rfl, rfl⟩ := HPL.out rfl
        clear HPL
        go_upto_region 22 with (first
          | (at_builtin; have t_ : Tk 0 := ‹Tk 0›; refine wpList_buf w.heap.size _ rfl _ _ rfl u8 (34 :: esc s) [34] rfl (HBUF.out.alloc _) _ 1 1 rfl rfl (one_src wr 34 34 rfl) (by simp; omega) ?_; intro v' w1 hr1 hb1; rw [QL.out] at hr1; obtain ⟨A', c', rfl, -⟩ := hr1.slice; have cv := hr1.conv; have B8 := hid ((HBE.out.alloc HBUF.out.2 _).trans hb1); clear t_ tok0; have tok1 : Tk 1 := ⟨⟩)
          | (go_at_call 10; have t_ : Tk 1 := ‹Tk 1›; refine (parse_any L2 _ (HG.out.below B8.out) (by omega) HF2.out).mono ?_; intro e w32 hp; rw [HP2.out] at hp; obtain ⟨⟨vs, vn, vi, vk, vl⟩, rfl, hr, hb⟩ := hp; obtain ⟨As2, ks2, hvs, -, -⟩ := hr.set.full; dsimp only at hvs; subst hvs; obtain ⟨An2, kn2, hvn, -, -, -⟩ := hr.names.full; dsimp only at hvn; subst hvn; obtain ⟨Ai2, ki2, hvi, -, -, -⟩ := hr.items.choose_spec.1.full; dsimp only at hvi; subst hvi; obtain ⟨Ak2, kk2, hvk, -, -, -⟩ := hr.keys.choose_spec.1.full; dsimp only at hvk; subst hvk; obtain ⟨Al2, kl2, hvl, -, -, -⟩ := hr.lit.full; dsimp only at hvl; subst hvl; have b32 := hid (below_then B8.out hb); clear hr hb; dsimp only [cmC] <;> (clear t_ tok1; have tok2 : Tk 2 := ⟨⟩)))
        go_wp2_with (go_at_call 10; have t_ : Tk 2 := ‹Tk 2›; refine (parse_any L3 _ (HG.out.below (b32.out.alloc b32.out.size _)) (by omega) HF3.out).mono ?_; intro e w33 hp; rw [HP3.out] at hp; obtain ⟨⟨vs, vn, vi, vk, vl⟩, rfl, hr, hb⟩ := hp; obtain ⟨As3, ks3, hvs, -, -⟩ := hr.set.full; dsimp only at hvs; subst hvs; obtain ⟨An3, kn3, hvn, -, -, -⟩ := hr.names.full; dsimp only at hvn; subst hvn; obtain ⟨Ai3, ki3, hvi, -, -, -⟩ := hr.items.choose_spec.1.full; dsimp only at hvi; subst hvi; obtain ⟨Ak3, kk3, hvk, -, -, -⟩ := hr.keys.choose_spec.1.full; dsimp only at hvk; subst hvk; obtain ⟨Al3, kl3, hvl, -, -, -⟩ := hr.lit.full; dsimp only at hvl; subst hvl; have b33 := hid (below_then (b32.out.alloc b32.out.size _) hb); clear hr hb; dsimp only [cmC] <;> (clear t_ tok2; have tok3 : Tk 3 := ⟨⟩))
        go_ret
        exact ⟨rfl, b33.out.alloc b33.out.size _⟩
      · have hp2' : parseS L2 = ({ tag := [116], word := [67, 82, 69, 65, 84, 69], box := s }, 0) := hp2
        have HP2 := hid hp2'
        clear hp2 hp2'
        obtain ⟨rfl, rfl⟩ := HPL.out rfl
        clear HPL
        go_upto_region 22 with (first
          | (at_builtin; have t_ : Tk 0 := ‹Tk 0›; refine wpList_buf w.heap.size _ rfl _ _ rfl u8 (34 :: esc s) [34] rfl (HBUF.out.alloc _) _ 1 1 rfl rfl (one_src wr 34 34 rfl) (by simp; omega) ?_; intro v' w1 hr1 hb1; rw [QL.out] at hr1; obtain ⟨A', c', rfl, -⟩ := hr1.slice; have cv := hr1.conv; have B8 := hid ((HBE.out.alloc HBUF.out.2 _).trans hb1); clear t_ tok0; have tok1 : Tk 1 := ⟨⟩)
          | (go_at_call 10; have t_ : Tk 1 := ‹Tk 1›; refine (parse_any L2 _ (HG.out.below B8.out) (by omega) HF2.out).mono ?_; intro e w32 hp; rw [HP2.out] at hp; obtain ⟨⟨vs, vn, vi, vk, vl⟩, rfl, hr, hb⟩ := hp; obtain ⟨As2, ks2, hvs, -, -⟩ := hr.set.full; dsimp only at hvs; subst hvs; obtain ⟨An2, kn2, hvn, -, -, -⟩ := hr.names.full; dsimp only at hvn; subst hvn; obtain ⟨Ai2, ki2, hvi, -, -, -⟩ := hr.items.choose_spec.1.full; dsimp only at hvi; subst hvi; obtain ⟨Ak2, kk2, hvk, -, -, -⟩ := hr.keys.choose_spec.1.full; dsimp only at hvk; subst hvk; obtain ⟨Al2, kl2, hvl, -, -, -⟩ := hr.lit.full; dsimp only at hvl; subst hvl; have b32 := hid (below_then B8.out hb); clear hr hb; dsimp only [cmC] <;> (clear t_ tok1; have tok2 : Tk 2 := ⟨⟩)))
        go_wp2_with (go_at_call 10; have t_ : Tk 2 := ‹Tk 2›; refine (parse_any L3 _ (HG.out.below (b32.out.alloc b32.out.size _)) (by omega) HF3.out).mono ?_; intro e w33 hp; rw [HP3.out] at hp; obtain ⟨⟨vs, vn, vi, vk, vl⟩, rfl, hr, hb⟩ := hp; obtain ⟨As3, ks3, hvs, -, -⟩ := hr.set.full; dsimp only at hvs; subst hvs; obtain ⟨An3, kn3, hvn, -, -, -⟩ := hr.names.full; dsimp only at hvn; subst hvn; obtain ⟨Ai3, ki3, hvi, -, -, -⟩ := hr.items.choose_spec.1.full; dsimp only at hvi; subst hvi; obtain ⟨Ak3, kk3, hvk, -, -, -⟩ := hr.keys.choose_spec.1.full; dsimp only at hvk; subst hvk; obtain ⟨Al3, kl3, hvl, -, -, -⟩ := hr.lit.full; dsimp only at hvl; subst hvl; have b33 := hid (below_then (b32.out.alloc b32.out.size _) hb); clear hr hb; dsimp only [cmC] <;> (clear t_ tok2; have tok3 : Tk 3 := ⟨⟩))
        go_ret
        exact ⟨rfl, b33.out.alloc b33.out.size _⟩
end Go.Proofs.YtfdmdmahddjjmaaGreatDoor
