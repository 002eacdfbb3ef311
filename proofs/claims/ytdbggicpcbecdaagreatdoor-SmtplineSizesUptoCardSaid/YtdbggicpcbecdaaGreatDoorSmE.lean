/-
  Parse of a command.
-/
import Derived.Test.YtdbggicpcbecdaaGreatDoorSmD
import Derived.Test.YtdbggicpcbecdaaGreatDoorReg
import Derived.Deep.RegionHeld3
import Derived.Laws.EntriesVeiled
namespace Go.Proofs.YtdbggicpcbecdaaGreatDoor
open Go.RowKit Own Sm
set_option linter.unusedVariables false
set_option linter.unusedSimpArgs false
set_option maxRecDepth 100000
attribute [local go_sem] str_toList

theorem zero_form (w : World) : (zeroValue 44).run Tryz.prog w = .ok (.agg #[.string (str []), .nilFunc]) w := by
  have h : (Tryz.prog.info? 44).map (fun i => i.zero) = some (some (.agg #[.string (str []), .nilFunc])) := by kernel_rfl
  obtain ⟨i, hi, hz⟩ := Option.map_eq_some_iff.1 h
  simp [zeroValue, typeInfo, hi, hz, Result.andThen]

theorem CmdIs.drew {w : World} {b : Nat} {W p : List UInt8} {v : Value} {n : Int} (h : CmdIs w b W p v n) : CmdIs w.drew b W p v n := ⟨h.blk⟩
theorem CmdIs.far {w : World} {b k j : Nat} {W p : List UInt8} {v : Value} {n : Int} (h : CmdIs w b W p v n) (hk : b ≠ k) (x : Value) : CmdIs (w.setCell ⟨k, j, none⟩ x) b W p v n := ⟨(Below.heap_setCell w ⟨k, j, none⟩ x b hk).trans h.blk⟩
theorem MapAt.far {w : World} {b k j : Nat} {l : List (Bt × Value)} (h : MapAt w b l) (hk : b ≠ k) (x : Value) : MapAt (w.setCell ⟨k, j, none⟩ x) b l := by
  obtain ⟨es, clock, h1, h2⟩ := h
  exact ⟨es, clock, (Below.heap_setCell w ⟨k, j, none⟩ x b hk).trans h1, h2⟩
theorem two_new (w : World) (o o2 : Obj) : ((w.alloc o).alloc o2).drew.heap[w.heap.size + 1]? = some o2 := by
  have h := heap_alloc_new (w.alloc o) o2
  rw [show (w.alloc o).heap.size = w.heap.size + 1 by simp] at h
  exact h
theorem parR_ne (P : Bt) (o : Option (Bool × Int)) : endR P o ≠ .error 0 := by
  intro h
  cases o with
  | none => simp [endR] at h
  | some q =>
    obtain ⟨odd, n⟩ := q
    cases odd <;> simp [endR] at h
theorem readR_ne {kd : Nat} {key W rest : Bt} (hkd : kd ≤ 3) : readR kd key W rest ≠ .error 0 := by
  intro h
  match kd, hkd with
  | 0, _ => simp only [readR] at h; unfold oneR at h; split at h <;> (try split at h) <;> simp at h
  | 1, _ => simp only [readR] at h; unfold nothingR at h; split at h <;> simp at h
  | 2, _ => simp only [readR] at h; unfold authR at h; split at h <;> (try split at h) <;> simp at h
  | 3, _ =>
    simp only [readR] at h; unfold pathR at h
    split at h
    · split at h
      · simp at h
      · dsimp only at h
        split at h
        · simp at h
        · split at h
          · simp at h
          · split at h <;> simp at h
    · simp at h
def fidOf : Nat → FuncId
  | 0 => 28
  | 1 => 29
  | 2 => 30
  | _ => 31
theorem enters_fid (kd : Nat) (hkd : kd ≤ 3) : ∀ args w, (callFunc (fidOf kd) args).run Tryz.prog w = .ok (.enter (fidOf kd) args) w := by
  match kd, hkd with
  | 0, _ => exact enters_of Tryz.func28 (by kernel_rfl) rfl
  | 1, _ => exact enters_of Tryz.func29 (by kernel_rfl) rfl
  | 2, _ => exact enters_of Tryz.func30 (by kernel_rfl) rfl
  | 3, _ => exact enters_of Tryz.func31 (by kernel_rfl) rfl
theorem fnOf_fid (k : Nat) : fnOf k = .func (.func (fidOf k)) #[] #[] := by
  match k with
  | 0 => rfl
  | 1 => rfl
  | 2 => rfl
  | _ + 3 => rfl
theorem forms_key : ∀ p ∈ forms, p.2.1.length ≤ 10 ∧ p.2.2 ≤ 3 := by decide
theorem formK_key {w : Bt} {q : Bt × Nat} (h : formK w = some q) : q.1.length ≤ 10 ∧ q.2 ≤ 3 := by
  unfold formK at h
  obtain ⟨p, hp, rfl⟩ := Option.map_eq_some_iff.1 h
  exact forms_key p (List.mem_of_find?_eq_some hp)
theorem read_any (kd : Nat) (hkd : kd ≤ 3) (b : Nat) (W rest key : List UInt8) (w : World) (hG : GoodC w) (hgb : Gb b) (hk : key.length ≤ 10) (hs : rest.length ≤ 2147483648) (h : CmdIs w b W [] (.slice none 0 0) 0) :
    Calls Tryz.prog (fidOf kd) #[.pointer (some ⟨b, 0, none⟩), .string (str rest), .string (str key)] w fun e w' => GotIs w w' b W e (readR kd key W rest) := by
  match kd, hkd with
  | 0, _ => exact one_any b W rest key w hG.a h
  | 1, _ => exact nothing_any b W rest key w h
  | 2, _ => exact auth_any b W rest key w hG.a hs h
  | 3, _ => exact smpath_any b W rest key w hG hgb hk hs h
/-- What Parse answers. -/
def SmPost (w : World) (c : Cmd) (E : Int) (e : Ending) (w' : World) : Prop :=
  ∃ A cc, e = .returned (.tuple #[.agg #[.string (str c.1), .string (str c.2.1), .slice A c.2.2.1.length cc, .int .i64 c.2.2.2], .int .i64 E]) ∧ SBuf w.heap.size w' (.slice A c.2.2.1.length cc) c.2.2.1 ∧ Below w.heap.size w w'

set_option maxHeartbeats 8000000 in
theorem smparse_any (l : List UInt8) (w : World) (hG : GoodC w) (hl : l.length ≤ 2147483648) :
    Calls Tryz.prog 7 #[.string (str l)] w fun e w' => SmPost w (parseS l).1 (parseS l).2 e w' := by
  have hC := fun V => Tryz.strings_IndexFunc 14 #[] (enters_of Tryz.func14 (by kernel_rfl) rfl) othR (str l) V (oth_pred V)
  rw [idx_of oth_kind] at hC
  have hpre := List.takeWhile_append_dropWhile (p := isAl) (l := l)
  obtain ⟨k, hk⟩ : ∃ k, k = (l.takeWhile isAl).length := ⟨_, rfl⟩
  have hkl : k ≤ l.length := by rw [hk]; exact (List.takeWhile_prefix isAl).length_le
  have x1 : (str l).extract 0 k = str (l.takeWhile isAl) := by
    rw [str_upto]
    congr 1
    conv => lhs; rw [← hpre]
    rw [hk, List.take_left]
  have x2 : (str l).extract k l.length = str (l.dropWhile isAl) := by
    rw [str_from l k l.length rfl]
    congr 1
    conv => lhs; rw [← hpre]
    rw [hk, List.drop_left]
  rw [← hk] at hC
  have hal : (l.takeWhile isAl).length ≤ 2147483648 := by rw [← hk]; omega
  have hdl : (l.dropWhile isAl).length ≤ 2147483648 := Nat.le_trans (List.dropWhile_suffix isAl).length_le hl
  have hgr := fun V => great_any (l.takeWhile isAl) V (by omega)
  have htr := fun V => trimr_any (l.dropWhile isAl) V hdl
  have hrl : (restOf l).length ≤ 2147483648 := by
    unfold restOf Lib.trimRightB
    rw [List.length_reverse]
    refine Nat.le_trans (List.dropWhile_suffix _).length_le ?_
    rw [List.length_reverse]; exact hdl
  obtain ⟨W, hW⟩ : ∃ W, W = wordOf l := ⟨_, rfl⟩
  obtain ⟨rest, hrest⟩ : ∃ r, r = restOf l := ⟨_, rfl⟩
  rw [show (l.takeWhile isAl).map (moveB 97 65) = W from hW.symm] at hgr
  rw [show Lib.trimRightB (l.dropWhile isAl) 32 = rest from hrest.symm] at htr
  obtain ⟨C, E, hCE⟩ : ∃ C E, parseS l = (C, E) := ⟨_, _, rfl⟩
  have hP : (match formK W with
    | none => (zero, 161)
    | some (key, k) => if rest ≠ [] ∧ rest.head? ≠ some 32 then (zero, 161) else match readR k key W rest with
      | .error x => (zero, x)
      | .ok (p, a, n) => ((W, p, a, n), 0)) = (C, E) := by rw [← hCE, hW, hrest]; rfl
  rw [hCE]
  dsimp only
  rw [← hrest] at hrl
  obtain ⟨A, hA⟩ : ∃ A, A = l.takeWhile isAl := ⟨_, rfl⟩
  obtain ⟨D, hD⟩ : ∃ D, D = l.dropWhile isAl := ⟨_, rfl⟩
  rw [← hA] at x1 hgr
  rw [← hD] at x2 htr
  have hlz := str_size l
  have hlook := look_forms W
  have hnil : ∀ V : World, w.heap.size ≤ V.heap.size → SBuf w.heap.size V (.slice none 0 0) [] := fun V h => SBuf.nil h
  have Z0 := hid (CmdIs.new w [] [] (.slice none 0 0) 0)
  have B0 := hid ((Below.refl w.heap.size w).alloc (Nat.le_refl _) (.cells #[.string (str []), .string (str []), .slice none 0 0, .int .i64 0] 25))
  clear hA hD hpre hk hCE hW hrest hal hdl
  have hJ : ∃ J : Int, (∀ V, Calls Tryz.prog 15 #[.string (str l), .func (.func 14) #[] #[]] V fun e w' => e = .returned (.int .i64 J) ∧ Below V.heap.size V w') ∧ ((J = (k : Int) ∧ k < l.length) ∨ (J = -1 ∧ k = l.length)) := by
    by_cases hkk : k < l.length
    · rw [if_pos hkk] at hC; exact ⟨_, hC, .inl ⟨rfl, hkk⟩⟩
    · rw [if_neg hkk] at hC; exact ⟨_, hC, .inr ⟨rfl, by omega⟩⟩
  obtain ⟨J, hC2, hJ⟩ := hJ
  clear hC
  have hJ2 : (J = (k : Int) ∧ k < l.length ∧ (str l).extract 0 k = str A ∧ (str l).extract k l.length = str D) ∨ (J = -1 ∧ A = l ∧ D = [] ∧ (str l).extract 0 l.length = str l ∧ (str l).extract l.length l.length = str []) := by
    rcases hJ with ⟨h1, h2⟩ | ⟨h1, h2⟩
    · exact .inl ⟨h1, h2, x1, x2⟩
    · refine .inr ⟨h1, ?_, ?_, by rw [str_upto, List.take_length], by rw [str_from l l.length l.length rfl, List.drop_length]⟩
      · rw [str_upto, h2, List.take_length] at x1; exact (str_inj x1).symm
      · rw [str_from l k l.length rfl, h2, List.drop_length] at x2; exact (str_inj x2).symm
  clear x1 x2 hJ hkl
  cases hq : formK W with
  | none =>
    have hlk2 : Value.tuple #[(lookL formsV W).getD (.agg #[.string (str []), .nilFunc]), .bool (lookL formsV W).isSome] = .tuple #[.agg #[.string (str []), .nilFunc], .bool false] := by rw [hlook, hq]; rfl
    rw [hq] at hP
    clear hlook hq
    rcases hJ2 with ⟨rfl, hkk, x1, x2⟩ | ⟨rfl, rfl, rfl, x1, x2⟩
    · go_enter Tryz.func7, Tryz.ntmps7
      go_upto_region 7 with (first | (go_at_call 15; refine (hC2 _).mono ?_; rintro e w1 ⟨rfl, b1⟩; have B1 := hid (below_then B0.out b1); have Z1 := hid (Z0.out.below b1); clear b1) | (go_at_call 16; refine (hgr _).mono ?_; rintro e w2 ⟨rfl, b2⟩; have d2 := below_then B1.out b2; have B2 := hid (d2.alloc d2.size (.cells #[.string (str W), .string (str []), .slice none 0 0, .int .i64 0] 25)); have Z2 := hid ((Z1.out.below b2).alloc (.cells #[.string (str W), .string (str []), .slice none 0 0, .int .i64 0] 25)); have C2 := hid (CmdIs.new w2 W [] (.slice none 0 0) 0); have G2 := hid (hG.below d2).gb; have N2 := hid (Z1.out.below b2).lt; clear b2 d2) | (go_at_call 17; refine (htr _).mono ?_; rintro e w3 ⟨rfl, rfl⟩))
      go_cut [8, 9] (fun v8 v9 wx => ∃ b8, v8 = .pointer (some ⟨b8, 0, none⟩) ∧ v9 = .bool false ∧ wx.cell? ⟨b8, 0, none⟩ = some (.string (str [])) ∧ wx.cell? ⟨b8, 1, none⟩ = some .nilFunc ∧ CmdIs wx w2.heap.size W [] (.slice none 0 0) 0 ∧ CmdIs wx w.heap.size [] [] (.slice none 0 0) 0 ∧ Below w.heap.size w wx)
      case first =>
        go_wp2_with fail
        refine wp_region_held_drew (S := (fun w' => CmdIs w' w2.heap.size W [] (.slice none 0 0) 0)) (by kernel_rfl) C2.out.drew (fun hHeld => ?_)
        refine wpAnyH_take (i := 1) (oi := _) (v := ?vnx1) rfl (by kernel_rfl) (by kernel_rfl) (by kernel_rfl) (fun _ _ _ h => h) (Or.inl ⟨by rfl, ?ynx1⟩) (by assumption) ?rnx1
        case ynx1 => (intro w hSw; (try dsimp only at hSw); go_simp; try with_reducible rfl)
        try simp only [List.getElem_toArray, List.getElem_cons_zero, List.getElem_cons_succ, Act.put, List.setIfInBounds_toArray, List.set_cons_zero, List.set_cons_succ]
        refine wpAnyH_take (i := 2) (oi := _) (v := ?vnx2) rfl (by kernel_rfl) (by kernel_rfl) (by kernel_rfl) (fun _ _ _ h => h) (Or.inl ⟨by rfl, ?ynx2⟩) (by assumption) ?rnx2
        case ynx2 => (intro w hSw; (try dsimp only at hSw); have c0 := hSw.c0; go_simp; try with_reducible rfl)
        try simp only [List.getElem_toArray, List.getElem_cons_zero, List.getElem_cons_succ, Act.put, List.setIfInBounds_toArray, List.set_cons_zero, List.set_cons_succ]
        refine wpAnyH_ready (rs := [0, 7]) (by kernel_rfl) (by simp) ?_
        refine AllReadyH.cons (o := _) rfl (fun K hK => ?_) (AllReadyH.cons (o := _) rfl (fun K hK => ?_) AllReadyH.nil)
        · go_simp
          refine (forms_any _).mono ?_
          rintro e w4 ⟨m, rfl, hmap, b4, hm4⟩
          go_wp2_with fail
          refine hK.out _ _ (hHeld.below b4) (fun hHeld2 => ?_)
          have b4' := hid b4
          clear hK K b4
          try simp only [List.getElem_toArray, List.getElem_cons_zero, List.getElem_cons_succ, Act.put, List.setIfInBounds_toArray, List.set_cons_zero, List.set_cons_succ]
          refine Reg.swap (T := (fun w' => CmdIs w' w2.heap.size W [] (.slice none 0 0) 0 ∧ MapAt w' m formsV)) (fun w h => h.1) _ _ _ _ ?_
          have hHeld : (fun w' => CmdIs w' w2.heap.size W [] (.slice none 0 0) 0 ∧ MapAt w' m formsV) w4 := ⟨hHeld2, hmap⟩
          clear hHeld2
          refine wpAnyH_take (i := 3) (oi := _) (v := ?vnxa3) rfl (by kernel_rfl) (by kernel_rfl) (by kernel_rfl) (fun _ _ _ h => h) (Or.inl ⟨by rfl, ?ynxa3⟩) (by assumption) ?rnxa3
          case ynxa3 => (intro w hSw; (try dsimp only at hSw); have hlk := run_look_ok Tryz.underlying46 Tryz.underlying9 hSw.2 W (zero_form w); rw [hlk2] at hlk; go_simp; try with_reducible rfl)
          try simp only [List.getElem_toArray, List.getElem_cons_zero, List.getElem_cons_succ, Act.put, List.setIfInBounds_toArray, List.set_cons_zero, List.set_cons_succ]
          refine wpAnyH_take (i := 4) (oi := _) (v := ?vnxa4) rfl (by kernel_rfl) (by kernel_rfl) (by kernel_rfl) (fun _ _ _ h => h) (Or.inl ⟨by rfl, ?ynxa4⟩) (by assumption) ?rnxa4
          case ynxa4 => (intro w hSw; (try dsimp only at hSw); go_simp; try with_reducible rfl)
          try simp only [List.getElem_toArray, List.getElem_cons_zero, List.getElem_cons_succ, Act.put, List.setIfInBounds_toArray, List.set_cons_zero, List.set_cons_succ]
          refine wpAnyH_take (i := 5) (oi := _) (v := ?vnxa5) rfl (by kernel_rfl) (by kernel_rfl) (by kernel_rfl) (fun _ _ _ h => h) (Or.inl ⟨by rfl, ?ynxa5⟩) (by assumption) ?rnxa5
          case ynxa5 => (intro w hSw; (try dsimp only at hSw); go_simp; try with_reducible rfl)
          try simp only [List.getElem_toArray, List.getElem_cons_zero, List.getElem_cons_succ, Act.put, List.setIfInBounds_toArray, List.set_cons_zero, List.set_cons_succ]
          refine wpAnyH_take (i := 6) (oi := _) (v := ?vnxa6) rfl (by kernel_rfl) (by kernel_rfl) (by kernel_rfl) (fun _ _ _ h => h) (Or.inl ⟨by rfl, ?ynxa6⟩) (by assumption) ?rnxa6
          case ynxa6 => (intro w hSw; (try dsimp only at hSw); go_simp; try with_reducible rfl)
          try simp only [List.getElem_toArray, List.getElem_cons_zero, List.getElem_cons_succ, Act.put, List.setIfInBounds_toArray, List.set_cons_zero, List.set_cons_succ]
          refine wpAnyH_ready (rs := [7]) (by kernel_rfl) (by simp) ?_
          refine AllReadyH.cons (o := _) rfl (fun K hK => ?_) AllReadyH.nil
          go_simp
          refine hK.out _ _ ⟨hHeld.1.alloc _, hHeld.2.below ((Below.refl _ _).alloc (Nat.le_refl _) _)⟩ (fun hHeld3 => ?_)
          have hHw := hHeld
          clear hK K hHeld
          try simp only [List.getElem_toArray, List.getElem_cons_zero, List.getElem_cons_succ, Act.put, List.setIfInBounds_toArray, List.set_cons_zero, List.set_cons_succ]
          refine wpAnyH_ready (rs := [8]) (by kernel_rfl) (by simp) ?_
          refine AllReadyH.cons (o := _) rfl (fun K hK => ?_) AllReadyH.nil
          go_simp
          refine hK.out _ _ ?hsnxa ?hcnxa
          case hsnxa => first | exact ⟨hHw.1.alloc _, hHw.2.below ((Below.refl _ _).alloc (Nat.le_refl _) _)⟩
          intro hHeld4
          clear hK K hHeld3
          try simp only [List.getElem_toArray, List.getElem_cons_zero, List.getElem_cons_succ, Act.put, List.setIfInBounds_toArray, List.set_cons_zero, List.set_cons_succ]
          refine wpAnyH_take (i := 9) (oi := _) (v := ?vnxa9) rfl (by kernel_rfl) (by kernel_rfl) (by kernel_rfl) (fun _ _ _ h => h) (Or.inl ⟨by rfl, ?ynxa9⟩) (by assumption) ?rnxa9
          case ynxa9 => (intro w hSw; (try dsimp only at hSw); go_simp; try with_reducible rfl)
          try simp only [List.getElem_toArray, List.getElem_cons_zero, List.getElem_cons_succ, Act.put, List.setIfInBounds_toArray, List.set_cons_zero, List.set_cons_succ]
          refine wpAnyH_done (by kernel_rfl) ?_ _
          go_wp2_with fail
          go_meet
          case rel => exact ⟨w4.heap.size, rfl, rfl, by simp, by simp, hHw.1.alloc _, (Z2.out.drew.below b4'.out).alloc _, (below_then B2.out.drew b4'.out).alloc (below_then B2.out.drew b4'.out).size _⟩
        · go_simp
          refine hK.out _ _ (hHeld.alloc _) (fun hHeld3 => ?_)
          have hHw := hHeld
          clear hK K hHeld
          have hHeld := hHeld3
          clear hHeld3
          try simp only [List.getElem_toArray, List.getElem_cons_zero, List.getElem_cons_succ, Act.put, List.setIfInBounds_toArray, List.set_cons_zero, List.set_cons_succ]
          refine wpAnyH_ready (rs := [0]) (by kernel_rfl) (by simp) ?_
          refine AllReadyH.cons (o := _) rfl (fun K hK => ?_) AllReadyH.nil
          go_simp
          refine (forms_any _).mono ?_
          rintro e w4 ⟨m, rfl, hmap, b4, hm4⟩
          go_wp2_with fail
          refine hK.out _ _ (hHeld.below b4) (fun hHeld2 => ?_)
          have b4' := hid b4
          clear hK K b4
          try simp only [List.getElem_toArray, List.getElem_cons_zero, List.getElem_cons_succ, Act.put, List.setIfInBounds_toArray, List.set_cons_zero, List.set_cons_succ]
          refine Reg.swap (T := (fun w' => CmdIs w' w2.heap.size W [] (.slice none 0 0) 0 ∧ MapAt w' m formsV)) (fun w h => h.1) _ _ _ _ ?_
          have hHeld : (fun w' => CmdIs w' w2.heap.size W [] (.slice none 0 0) 0 ∧ MapAt w' m formsV) w4 := ⟨hHeld2, hmap⟩
          clear hHeld2
          refine wpAnyH_take (i := 3) (oi := _) (v := ?vnxb3) rfl (by kernel_rfl) (by kernel_rfl) (by kernel_rfl) (fun _ _ _ h => h) (Or.inl ⟨by rfl, ?ynxb3⟩) (by assumption) ?rnxb3
          case ynxb3 => (intro w hSw; (try dsimp only at hSw); have hlk := run_look_ok Tryz.underlying46 Tryz.underlying9 hSw.2 W (zero_form w); rw [hlk2] at hlk; go_simp; try with_reducible rfl)
          try simp only [List.getElem_toArray, List.getElem_cons_zero, List.getElem_cons_succ, Act.put, List.setIfInBounds_toArray, List.set_cons_zero, List.set_cons_succ]
          refine wpAnyH_take (i := 4) (oi := _) (v := ?vnxb4) rfl (by kernel_rfl) (by kernel_rfl) (by kernel_rfl) (fun _ _ _ h => h) (Or.inl ⟨by rfl, ?ynxb4⟩) (by assumption) ?rnxb4
          case ynxb4 => (intro w hSw; (try dsimp only at hSw); go_simp; try with_reducible rfl)
          try simp only [List.getElem_toArray, List.getElem_cons_zero, List.getElem_cons_succ, Act.put, List.setIfInBounds_toArray, List.set_cons_zero, List.set_cons_succ]
          refine wpAnyH_take (i := 5) (oi := _) (v := ?vnxb5) rfl (by kernel_rfl) (by kernel_rfl) (by kernel_rfl) (fun _ _ _ h => h) (Or.inl ⟨by rfl, ?ynxb5⟩) (by assumption) ?rnxb5
          case ynxb5 => (intro w hSw; (try dsimp only at hSw); go_simp; try with_reducible rfl)
          try simp only [List.getElem_toArray, List.getElem_cons_zero, List.getElem_cons_succ, Act.put, List.setIfInBounds_toArray, List.set_cons_zero, List.set_cons_succ]
          refine wpAnyH_take (i := 6) (oi := _) (v := ?vnxb6) rfl (by kernel_rfl) (by kernel_rfl) (by kernel_rfl) (fun _ _ _ h => h) (Or.inl ⟨by rfl, ?ynxb6⟩) (by assumption) ?rnxb6
          case ynxb6 => (intro w hSw; (try dsimp only at hSw); go_simp; try with_reducible rfl)
          try simp only [List.getElem_toArray, List.getElem_cons_zero, List.getElem_cons_succ, Act.put, List.setIfInBounds_toArray, List.set_cons_zero, List.set_cons_succ]
          have blk : w4.heap[w2.heap.size + 1]? = some (.cells #[.string (str []), .nilFunc] 44 (0, 0)) := (b4'.out.block (w2.heap.size + 1) (by simp)).trans (two_new w2 _ _)
          have cA := cells_at blk 0
          have cB := cells_at blk 1
          have fA := free_at blk 0
          have fB := free_at blk 1
          have cA : w4.cell? ⟨w2.heap.size + 1, 0, none⟩ = some (.string (str [])) := cA
          have cB : w4.cell? ⟨w2.heap.size + 1, 1, none⟩ = some .nilFunc := cB
          have hm8 : m ≠ w2.heap.size + 1 := by have : w2.heap.size + 2 ≤ m := (by simpa using hm4); omega
          have hb8 : w2.heap.size ≠ w2.heap.size + 1 := by omega
          have hHeld3 := hHeld
          have HM4 := hid hm4
          clear hHeld hm4
          refine wpAnyH_ready (rs := [8]) (by kernel_rfl) (by simp) ?_
          refine AllReadyH.cons (o := _) rfl (fun K hK => ?_) AllReadyH.nil
          go_simp
          refine hK.out _ _ ?hsnxb ?hcnxb
          case hsnxb => first | exact ⟨(hHeld3.1.far hb8 _).far hb8 _, (hHeld3.2.far hm8 _).far hm8 _⟩
          intro hHeld4
          clear hK K hHeld3
          try simp only [List.getElem_toArray, List.getElem_cons_zero, List.getElem_cons_succ, Act.put, List.setIfInBounds_toArray, List.set_cons_zero, List.set_cons_succ]
          refine wpAnyH_take (i := 9) (oi := _) (v := ?vnxb9) rfl (by kernel_rfl) (by kernel_rfl) (by kernel_rfl) (fun _ _ _ h => h) (Or.inl ⟨by rfl, ?ynxb9⟩) (by assumption) ?rnxb9
          case ynxb9 => (intro w hSw; (try dsimp only at hSw); go_simp; try with_reducible rfl)
          try simp only [List.getElem_toArray, List.getElem_cons_zero, List.getElem_cons_succ, Act.put, List.setIfInBounds_toArray, List.set_cons_zero, List.set_cons_succ]
          refine wpAnyH_done (by kernel_rfl) ?_ _
          go_wp2_with fail
          go_meet
          case rel => exact ⟨w2.heap.size + 1, rfl, rfl, by rw [cells_at (block_set (block_set blk _) _)]; rfl, by rw [cells_at (block_set (block_set blk _) _)]; rfl, hHeld4.1, ((CmdIs.below (CmdIs.drew (Z2.out.alloc _)) b4'.out).far (by have := N2.out; omega) _).far (by have := N2.out; omega) _, ((below_then (B2.out.alloc B2.out.size _).drew b4'.out).setCell (p := ⟨w2.heap.size + 1, 0, none⟩) (by have := N2.out; simp; omega) _).setCell (p := ⟨w2.heap.size + 1, 1, none⟩) (by have := N2.out; simp; omega) _⟩
      case rest =>
        obtain ⟨b8, rfl, rfl, k0, k1, kc, kz, kb⟩ := hcut
        have y0 := kz.c0
        have y1 := kz.c1
        have y2 := kz.c2
        have y3 := kz.c3
        have f0 := kz.free 0
        have f1 := kz.free 1
        have f2 := kz.free 2
        have f3 := kz.free 3
        have KB := hid kb
        have HP := hid hP
        clear kc kz kb hP
        go_wp2_with fail
        obtain ⟨h1, h2⟩ := Prod.mk.inj HP.out
        subst h1 h2
        refine bodyPost_ret (v := .tuple #[.agg #[.string (str []), .string (str []), .slice none 0 0, .int .i64 0], .int .i64 161]) (by first | (simp [results, Tryz.results7, go_sem, y0, y1, y2, y3]; done) | (simp [results, Tryz.results7, go_sem, y0, y1, y2, y3]; rfl)) rfl ⟨none, 0, rfl, hnil _ ?_, ?_⟩
        · simpa [World.setCell] using KB.out.size
        · exact (((KB.out.setCell (by simp) _).setCell (by simp) _).setCell (by simp) _).setCell (by simp) _
    · go_enter Tryz.func7, Tryz.ntmps7
      go_upto_region 7 with (first | (go_at_call 15; refine (hC2 _).mono ?_; rintro e w1 ⟨rfl, b1⟩; have B1 := hid (below_then B0.out b1); have Z1 := hid (Z0.out.below b1); clear b1) | (go_at_call 16; refine (hgr _).mono ?_; rintro e w2 ⟨rfl, b2⟩; have d2 := below_then B1.out b2; have B2 := hid (d2.alloc d2.size (.cells #[.string (str W), .string (str []), .slice none 0 0, .int .i64 0] 25)); have Z2 := hid ((Z1.out.below b2).alloc (.cells #[.string (str W), .string (str []), .slice none 0 0, .int .i64 0] 25)); have C2 := hid (CmdIs.new w2 W [] (.slice none 0 0) 0); have G2 := hid (hG.below d2).gb; have N2 := hid (Z1.out.below b2).lt; clear b2 d2) | (go_at_call 17; refine (htr _).mono ?_; rintro e w3 ⟨rfl, rfl⟩))
      go_cut [8, 9] (fun v8 v9 wx => ∃ b8, v8 = .pointer (some ⟨b8, 0, none⟩) ∧ v9 = .bool false ∧ wx.cell? ⟨b8, 0, none⟩ = some (.string (str [])) ∧ wx.cell? ⟨b8, 1, none⟩ = some .nilFunc ∧ CmdIs wx w2.heap.size W [] (.slice none 0 0) 0 ∧ CmdIs wx w.heap.size [] [] (.slice none 0 0) 0 ∧ Below w.heap.size w wx)
      case first =>
        go_wp2_with fail
        refine wp_region_held_drew (S := (fun w' => CmdIs w' w2.heap.size W [] (.slice none 0 0) 0)) (by kernel_rfl) C2.out.drew (fun hHeld => ?_)
        refine wpAnyH_take (i := 1) (oi := _) (v := ?vny1) rfl (by kernel_rfl) (by kernel_rfl) (by kernel_rfl) (fun _ _ _ h => h) (Or.inl ⟨by rfl, ?yny1⟩) (by assumption) ?rny1
        case yny1 => (intro w hSw; (try dsimp only at hSw); go_simp; try with_reducible rfl)
        try simp only [List.getElem_toArray, List.getElem_cons_zero, List.getElem_cons_succ, Act.put, List.setIfInBounds_toArray, List.set_cons_zero, List.set_cons_succ]
        refine wpAnyH_take (i := 2) (oi := _) (v := ?vny2) rfl (by kernel_rfl) (by kernel_rfl) (by kernel_rfl) (fun _ _ _ h => h) (Or.inl ⟨by rfl, ?yny2⟩) (by assumption) ?rny2
        case yny2 => (intro w hSw; (try dsimp only at hSw); have c0 := hSw.c0; go_simp; try with_reducible rfl)
        try simp only [List.getElem_toArray, List.getElem_cons_zero, List.getElem_cons_succ, Act.put, List.setIfInBounds_toArray, List.set_cons_zero, List.set_cons_succ]
        refine wpAnyH_ready (rs := [0, 7]) (by kernel_rfl) (by simp) ?_
        refine AllReadyH.cons (o := _) rfl (fun K hK => ?_) (AllReadyH.cons (o := _) rfl (fun K hK => ?_) AllReadyH.nil)
        · go_simp
          refine (forms_any _).mono ?_
          rintro e w4 ⟨m, rfl, hmap, b4, hm4⟩
          go_wp2_with fail
          refine hK.out _ _ (hHeld.below b4) (fun hHeld2 => ?_)
          have b4' := hid b4
          clear hK K b4
          try simp only [List.getElem_toArray, List.getElem_cons_zero, List.getElem_cons_succ, Act.put, List.setIfInBounds_toArray, List.set_cons_zero, List.set_cons_succ]
          refine Reg.swap (T := (fun w' => CmdIs w' w2.heap.size W [] (.slice none 0 0) 0 ∧ MapAt w' m formsV)) (fun w h => h.1) _ _ _ _ ?_
          have hHeld : (fun w' => CmdIs w' w2.heap.size W [] (.slice none 0 0) 0 ∧ MapAt w' m formsV) w4 := ⟨hHeld2, hmap⟩
          clear hHeld2
          refine wpAnyH_take (i := 3) (oi := _) (v := ?vnya3) rfl (by kernel_rfl) (by kernel_rfl) (by kernel_rfl) (fun _ _ _ h => h) (Or.inl ⟨by rfl, ?ynya3⟩) (by assumption) ?rnya3
          case ynya3 => (intro w hSw; (try dsimp only at hSw); have hlk := run_look_ok Tryz.underlying46 Tryz.underlying9 hSw.2 W (zero_form w); rw [hlk2] at hlk; go_simp; try with_reducible rfl)
          try simp only [List.getElem_toArray, List.getElem_cons_zero, List.getElem_cons_succ, Act.put, List.setIfInBounds_toArray, List.set_cons_zero, List.set_cons_succ]
          refine wpAnyH_take (i := 4) (oi := _) (v := ?vnya4) rfl (by kernel_rfl) (by kernel_rfl) (by kernel_rfl) (fun _ _ _ h => h) (Or.inl ⟨by rfl, ?ynya4⟩) (by assumption) ?rnya4
          case ynya4 => (intro w hSw; (try dsimp only at hSw); go_simp; try with_reducible rfl)
          try simp only [List.getElem_toArray, List.getElem_cons_zero, List.getElem_cons_succ, Act.put, List.setIfInBounds_toArray, List.set_cons_zero, List.set_cons_succ]
          refine wpAnyH_take (i := 5) (oi := _) (v := ?vnya5) rfl (by kernel_rfl) (by kernel_rfl) (by kernel_rfl) (fun _ _ _ h => h) (Or.inl ⟨by rfl, ?ynya5⟩) (by assumption) ?rnya5
          case ynya5 => (intro w hSw; (try dsimp only at hSw); go_simp; try with_reducible rfl)
          try simp only [List.getElem_toArray, List.getElem_cons_zero, List.getElem_cons_succ, Act.put, List.setIfInBounds_toArray, List.set_cons_zero, List.set_cons_succ]
          refine wpAnyH_take (i := 6) (oi := _) (v := ?vnya6) rfl (by kernel_rfl) (by kernel_rfl) (by kernel_rfl) (fun _ _ _ h => h) (Or.inl ⟨by rfl, ?ynya6⟩) (by assumption) ?rnya6
          case ynya6 => (intro w hSw; (try dsimp only at hSw); go_simp; try with_reducible rfl)
          try simp only [List.getElem_toArray, List.getElem_cons_zero, List.getElem_cons_succ, Act.put, List.setIfInBounds_toArray, List.set_cons_zero, List.set_cons_succ]
          refine wpAnyH_ready (rs := [7]) (by kernel_rfl) (by simp) ?_
          refine AllReadyH.cons (o := _) rfl (fun K hK => ?_) AllReadyH.nil
          go_simp
          refine hK.out _ _ ⟨hHeld.1.alloc _, hHeld.2.below ((Below.refl _ _).alloc (Nat.le_refl _) _)⟩ (fun hHeld3 => ?_)
          have hHw := hHeld
          clear hK K hHeld
          try simp only [List.getElem_toArray, List.getElem_cons_zero, List.getElem_cons_succ, Act.put, List.setIfInBounds_toArray, List.set_cons_zero, List.set_cons_succ]
          refine wpAnyH_ready (rs := [8]) (by kernel_rfl) (by simp) ?_
          refine AllReadyH.cons (o := _) rfl (fun K hK => ?_) AllReadyH.nil
          go_simp
          refine hK.out _ _ ?hsnya ?hcnya
          case hsnya => first | exact ⟨hHw.1.alloc _, hHw.2.below ((Below.refl _ _).alloc (Nat.le_refl _) _)⟩
          intro hHeld4
          clear hK K hHeld3
          try simp only [List.getElem_toArray, List.getElem_cons_zero, List.getElem_cons_succ, Act.put, List.setIfInBounds_toArray, List.set_cons_zero, List.set_cons_succ]
          refine wpAnyH_take (i := 9) (oi := _) (v := ?vnya9) rfl (by kernel_rfl) (by kernel_rfl) (by kernel_rfl) (fun _ _ _ h => h) (Or.inl ⟨by rfl, ?ynya9⟩) (by assumption) ?rnya9
          case ynya9 => (intro w hSw; (try dsimp only at hSw); go_simp; try with_reducible rfl)
          try simp only [List.getElem_toArray, List.getElem_cons_zero, List.getElem_cons_succ, Act.put, List.setIfInBounds_toArray, List.set_cons_zero, List.set_cons_succ]
          refine wpAnyH_done (by kernel_rfl) ?_ _
          go_wp2_with fail
          go_meet
          case rel => exact ⟨w4.heap.size, rfl, rfl, by simp, by simp, hHw.1.alloc _, (Z2.out.drew.below b4'.out).alloc _, (below_then B2.out.drew b4'.out).alloc (below_then B2.out.drew b4'.out).size _⟩
        · go_simp
          refine hK.out _ _ (hHeld.alloc _) (fun hHeld3 => ?_)
          have hHw := hHeld
          clear hK K hHeld
          have hHeld := hHeld3
          clear hHeld3
          try simp only [List.getElem_toArray, List.getElem_cons_zero, List.getElem_cons_succ, Act.put, List.setIfInBounds_toArray, List.set_cons_zero, List.set_cons_succ]
          refine wpAnyH_ready (rs := [0]) (by kernel_rfl) (by simp) ?_
          refine AllReadyH.cons (o := _) rfl (fun K hK => ?_) AllReadyH.nil
          go_simp
          refine (forms_any _).mono ?_
          rintro e w4 ⟨m, rfl, hmap, b4, hm4⟩
          go_wp2_with fail
          refine hK.out _ _ (hHeld.below b4) (fun hHeld2 => ?_)
          have b4' := hid b4
          clear hK K b4
          try simp only [List.getElem_toArray, List.getElem_cons_zero, List.getElem_cons_succ, Act.put, List.setIfInBounds_toArray, List.set_cons_zero, List.set_cons_succ]
          refine Reg.swap (T := (fun w' => CmdIs w' w2.heap.size W [] (.slice none 0 0) 0 ∧ MapAt w' m formsV)) (fun w h => h.1) _ _ _ _ ?_
          have hHeld : (fun w' => CmdIs w' w2.heap.size W [] (.slice none 0 0) 0 ∧ MapAt w' m formsV) w4 := ⟨hHeld2, hmap⟩
          clear hHeld2
          refine wpAnyH_take (i := 3) (oi := _) (v := ?vnyb3) rfl (by kernel_rfl) (by kernel_rfl) (by kernel_rfl) (fun _ _ _ h => h) (Or.inl ⟨by rfl, ?ynyb3⟩) (by assumption) ?rnyb3
          case ynyb3 => (intro w hSw; (try dsimp only at hSw); have hlk := run_look_ok Tryz.underlying46 Tryz.underlying9 hSw.2 W (zero_form w); rw [hlk2] at hlk; go_simp; try with_reducible rfl)
          try simp only [List.getElem_toArray, List.getElem_cons_zero, List.getElem_cons_succ, Act.put, List.setIfInBounds_toArray, List.set_cons_zero, List.set_cons_succ]
          refine wpAnyH_take (i := 4) (oi := _) (v := ?vnyb4) rfl (by kernel_rfl) (by kernel_rfl) (by kernel_rfl) (fun _ _ _ h => h) (Or.inl ⟨by rfl, ?ynyb4⟩) (by assumption) ?rnyb4
          case ynyb4 => (intro w hSw; (try dsimp only at hSw); go_simp; try with_reducible rfl)
          try simp only [List.getElem_toArray, List.getElem_cons_zero, List.getElem_cons_succ, Act.put, List.setIfInBounds_toArray, List.set_cons_zero, List.set_cons_succ]
          refine wpAnyH_take (i := 5) (oi := _) (v := ?vnyb5) rfl (by kernel_rfl) (by kernel_rfl) (by kernel_rfl) (fun _ _ _ h => h) (Or.inl ⟨by rfl, ?ynyb5⟩) (by assumption) ?rnyb5
          case ynyb5 => (intro w hSw; (try dsimp only at hSw); go_simp; try with_reducible rfl)
          try simp only [List.getElem_toArray, List.getElem_cons_zero, List.getElem_cons_succ, Act.put, List.setIfInBounds_toArray, List.set_cons_zero, List.set_cons_succ]
          refine wpAnyH_take (i := 6) (oi := _) (v := ?vnyb6) rfl (by kernel_rfl) (by kernel_rfl) (by kernel_rfl) (fun _ _ _ h => h) (Or.inl ⟨by rfl, ?ynyb6⟩) (by assumption) ?rnyb6
          case ynyb6 => (intro w hSw; (try dsimp only at hSw); go_simp; try with_reducible rfl)
          try simp only [List.getElem_toArray, List.getElem_cons_zero, List.getElem_cons_succ, Act.put, List.setIfInBounds_toArray, List.set_cons_zero, List.set_cons_succ]
          have blk : w4.heap[w2.heap.size + 1]? = some (.cells #[.string (str []), .nilFunc] 44 (0, 0)) := (b4'.out.block (w2.heap.size + 1) (by simp)).trans (two_new w2 _ _)
          have cA := cells_at blk 0
          have cB := cells_at blk 1
          have fA := free_at blk 0
          have fB := free_at blk 1
          have cA : w4.cell? ⟨w2.heap.size + 1, 0, none⟩ = some (.string (str [])) := cA
          have cB : w4.cell? ⟨w2.heap.size + 1, 1, none⟩ = some .nilFunc := cB
          have hm8 : m ≠ w2.heap.size + 1 := by have : w2.heap.size + 2 ≤ m := (by simpa using hm4); omega
          have hb8 : w2.heap.size ≠ w2.heap.size + 1 := by omega
          have hHeld3 := hHeld
          have HM4 := hid hm4
          clear hHeld hm4
          refine wpAnyH_ready (rs := [8]) (by kernel_rfl) (by simp) ?_
          refine AllReadyH.cons (o := _) rfl (fun K hK => ?_) AllReadyH.nil
          go_simp
          refine hK.out _ _ ?hsnyb ?hcnyb
          case hsnyb => first | exact ⟨(hHeld3.1.far hb8 _).far hb8 _, (hHeld3.2.far hm8 _).far hm8 _⟩
          intro hHeld4
          clear hK K hHeld3
          try simp only [List.getElem_toArray, List.getElem_cons_zero, List.getElem_cons_succ, Act.put, List.setIfInBounds_toArray, List.set_cons_zero, List.set_cons_succ]
          refine wpAnyH_take (i := 9) (oi := _) (v := ?vnyb9) rfl (by kernel_rfl) (by kernel_rfl) (by kernel_rfl) (fun _ _ _ h => h) (Or.inl ⟨by rfl, ?ynyb9⟩) (by assumption) ?rnyb9
          case ynyb9 => (intro w hSw; (try dsimp only at hSw); go_simp; try with_reducible rfl)
          try simp only [List.getElem_toArray, List.getElem_cons_zero, List.getElem_cons_succ, Act.put, List.setIfInBounds_toArray, List.set_cons_zero, List.set_cons_succ]
          refine wpAnyH_done (by kernel_rfl) ?_ _
          go_wp2_with fail
          go_meet
          case rel => exact ⟨w2.heap.size + 1, rfl, rfl, by rw [cells_at (block_set (block_set blk _) _)]; rfl, by rw [cells_at (block_set (block_set blk _) _)]; rfl, hHeld4.1, ((CmdIs.below (CmdIs.drew (Z2.out.alloc _)) b4'.out).far (by have := N2.out; omega) _).far (by have := N2.out; omega) _, ((below_then (B2.out.alloc B2.out.size _).drew b4'.out).setCell (p := ⟨w2.heap.size + 1, 0, none⟩) (by have := N2.out; simp; omega) _).setCell (p := ⟨w2.heap.size + 1, 1, none⟩) (by have := N2.out; simp; omega) _⟩
      case rest =>
        obtain ⟨b8, rfl, rfl, k0, k1, kc, kz, kb⟩ := hcut
        have y0 := kz.c0
        have y1 := kz.c1
        have y2 := kz.c2
        have y3 := kz.c3
        have f0 := kz.free 0
        have f1 := kz.free 1
        have f2 := kz.free 2
        have f3 := kz.free 3
        have KB := hid kb
        have HP := hid hP
        clear kc kz kb hP
        go_wp2_with fail
        obtain ⟨h1, h2⟩ := Prod.mk.inj HP.out
        subst h1 h2
        refine bodyPost_ret (v := .tuple #[.agg #[.string (str []), .string (str []), .slice none 0 0, .int .i64 0], .int .i64 161]) (by first | (simp [results, Tryz.results7, go_sem, y0, y1, y2, y3]; done) | (simp [results, Tryz.results7, go_sem, y0, y1, y2, y3]; rfl)) rfl ⟨none, 0, rfl, hnil _ ?_, ?_⟩
        · simpa [World.setCell] using KB.out.size
        · exact (((KB.out.setCell (by simp) _).setCell (by simp) _).setCell (by simp) _).setCell (by simp) _
  | some q =>
    obtain ⟨key, kd⟩ := q
    have hkk2 := formK_key hq
    have hread := fun b V g g2 c => read_any kd hkk2.2 b W rest key V g g2 hkk2.1 hrl c
    have herr : readR kd key W rest ≠ .error 0 := by
      intro h0
      exact readR_ne hkk2.2 h0
    obtain ⟨fid, hfid⟩ : ∃ fid, fid = fidOf kd := ⟨_, rfl⟩
    rw [← hfid] at hread
    have hlk2 : Value.tuple #[(lookL formsV W).getD (.agg #[.string (str []), .nilFunc]), .bool (lookL formsV W).isSome] = .tuple #[.agg #[.string (str key), .func (.func fid) #[] #[]], .bool true] := by
      rw [hlook, hq, hfid, ← fnOf_fid]; rfl
    rw [hq] at hP
    dsimp only at hP
    have hway : ((rest == []) = true ∧ rest.isEmpty = true ∧ ¬ (rest ≠ [] ∧ rest.head? ≠ some 32)) ∨ ((rest == []) = false ∧ rest.isEmpty = false ∧ ∃ c : UInt8, (∀ h, (str rest)[0]'h = c) ∧ ((c.toNat : Int) != 32) = false ∧ ¬ (rest ≠ [] ∧ rest.head? ≠ some 32) ∧ 0 < rest.length) ∨ ((rest == []) = false ∧ rest.isEmpty = false ∧ ∃ c : UInt8, (∀ h, (str rest)[0]'h = c) ∧ ((c.toNat : Int) != 32) = true ∧ (rest ≠ [] ∧ rest.head? ≠ some 32) ∧ 0 < rest.length) := by
      cases hr : rest with
      | nil => exact .inl ⟨rfl, rfl, fun h => h.1 rfl⟩
      | cons c t =>
        by_cases hc : c = 32
        · exact .inr (.inl ⟨rfl, rfl, c, str_ix rfl, by rw [hc]; rfl, fun h => h.2 (by rw [hc]; rfl), by simp⟩)
        · refine .inr (.inr ⟨rfl, rfl, c, str_ix rfl, ?_, ⟨by simp, by simpa using hc⟩, by simp⟩)
          rw [bne_iff_ne]; intro h; exact hc ((u8_eq c 32 (by decide)).1 (by rw [beq_iff_eq]; exact h))
    have hen := enters_fid kd hkk2.2
    rw [← hfid] at hen
    clear hlook hq hfid hkk2 hrl
    rcases hJ2 with ⟨rfl, hkk, x1, x2⟩ | ⟨rfl, rfl, rfl, x1, x2⟩
    · go_enter Tryz.func7, Tryz.ntmps7
      go_upto_region 7 with (first | (go_at_call 15; refine (hC2 _).mono ?_; rintro e w1 ⟨rfl, b1⟩; have B1 := hid (below_then B0.out b1); have Z1 := hid (Z0.out.below b1); clear b1) | (go_at_call 16; refine (hgr _).mono ?_; rintro e w2 ⟨rfl, b2⟩; have d2 := below_then B1.out b2; have B2 := hid (d2.alloc d2.size (.cells #[.string (str W), .string (str []), .slice none 0 0, .int .i64 0] 25)); have Z2 := hid ((Z1.out.below b2).alloc (.cells #[.string (str W), .string (str []), .slice none 0 0, .int .i64 0] 25)); have C2 := hid (CmdIs.new w2 W [] (.slice none 0 0) 0); have G2 := hid (hG.below d2).gb; have N2 := hid (Z1.out.below b2).lt; clear b2 d2) | (go_at_call 17; refine (htr _).mono ?_; rintro e w3 ⟨rfl, rfl⟩))
      go_cut [8, 9] (fun v8 v9 wx => ∃ b8, v8 = .pointer (some ⟨b8, 0, none⟩) ∧ v9 = .bool true ∧ wx.cell? ⟨b8, 0, none⟩ = some (.string (str key)) ∧ wx.cell? ⟨b8, 1, none⟩ = some (.func (.func fid) #[] #[]) ∧ CmdIs wx w2.heap.size W [] (.slice none 0 0) 0 ∧ CmdIs wx w.heap.size [] [] (.slice none 0 0) 0 ∧ Below w.heap.size w wx)
      case first =>
        go_wp2_with fail
        refine wp_region_held_drew (S := (fun w' => CmdIs w' w2.heap.size W [] (.slice none 0 0) 0)) (by kernel_rfl) C2.out.drew (fun hHeld => ?_)
        refine wpAnyH_take (i := 1) (oi := _) (v := ?vsx1) rfl (by kernel_rfl) (by kernel_rfl) (by kernel_rfl) (fun _ _ _ h => h) (Or.inl ⟨by rfl, ?ysx1⟩) (by assumption) ?rsx1
        case ysx1 => (intro w hSw; (try dsimp only at hSw); go_simp; try with_reducible rfl)
        try simp only [List.getElem_toArray, List.getElem_cons_zero, List.getElem_cons_succ, Act.put, List.setIfInBounds_toArray, List.set_cons_zero, List.set_cons_succ]
        refine wpAnyH_take (i := 2) (oi := _) (v := ?vsx2) rfl (by kernel_rfl) (by kernel_rfl) (by kernel_rfl) (fun _ _ _ h => h) (Or.inl ⟨by rfl, ?ysx2⟩) (by assumption) ?rsx2
        case ysx2 => (intro w hSw; (try dsimp only at hSw); have c0 := hSw.c0; go_simp; try with_reducible rfl)
        try simp only [List.getElem_toArray, List.getElem_cons_zero, List.getElem_cons_succ, Act.put, List.setIfInBounds_toArray, List.set_cons_zero, List.set_cons_succ]
        refine wpAnyH_ready (rs := [0, 7]) (by kernel_rfl) (by simp) ?_
        refine AllReadyH.cons (o := _) rfl (fun K hK => ?_) (AllReadyH.cons (o := _) rfl (fun K hK => ?_) AllReadyH.nil)
        · go_simp
          refine (forms_any _).mono ?_
          rintro e w4 ⟨m, rfl, hmap, b4, hm4⟩
          go_wp2_with fail
          refine hK.out _ _ (hHeld.below b4) (fun hHeld2 => ?_)
          have b4' := hid b4
          clear hK K b4
          try simp only [List.getElem_toArray, List.getElem_cons_zero, List.getElem_cons_succ, Act.put, List.setIfInBounds_toArray, List.set_cons_zero, List.set_cons_succ]
          refine Reg.swap (T := (fun w' => CmdIs w' w2.heap.size W [] (.slice none 0 0) 0 ∧ MapAt w' m formsV)) (fun w h => h.1) _ _ _ _ ?_
          have hHeld : (fun w' => CmdIs w' w2.heap.size W [] (.slice none 0 0) 0 ∧ MapAt w' m formsV) w4 := ⟨hHeld2, hmap⟩
          clear hHeld2
          refine wpAnyH_take (i := 3) (oi := _) (v := ?vsxa3) rfl (by kernel_rfl) (by kernel_rfl) (by kernel_rfl) (fun _ _ _ h => h) (Or.inl ⟨by rfl, ?ysxa3⟩) (by assumption) ?rsxa3
          case ysxa3 => (intro w hSw; (try dsimp only at hSw); have hlk := run_look_ok Tryz.underlying46 Tryz.underlying9 hSw.2 W (zero_form w); rw [hlk2] at hlk; go_simp; try with_reducible rfl)
          try simp only [List.getElem_toArray, List.getElem_cons_zero, List.getElem_cons_succ, Act.put, List.setIfInBounds_toArray, List.set_cons_zero, List.set_cons_succ]
          refine wpAnyH_take (i := 4) (oi := _) (v := ?vsxa4) rfl (by kernel_rfl) (by kernel_rfl) (by kernel_rfl) (fun _ _ _ h => h) (Or.inl ⟨by rfl, ?ysxa4⟩) (by assumption) ?rsxa4
          case ysxa4 => (intro w hSw; (try dsimp only at hSw); go_simp; try with_reducible rfl)
          try simp only [List.getElem_toArray, List.getElem_cons_zero, List.getElem_cons_succ, Act.put, List.setIfInBounds_toArray, List.set_cons_zero, List.set_cons_succ]
          refine wpAnyH_take (i := 5) (oi := _) (v := ?vsxa5) rfl (by kernel_rfl) (by kernel_rfl) (by kernel_rfl) (fun _ _ _ h => h) (Or.inl ⟨by rfl, ?ysxa5⟩) (by assumption) ?rsxa5
          case ysxa5 => (intro w hSw; (try dsimp only at hSw); go_simp; try with_reducible rfl)
          try simp only [List.getElem_toArray, List.getElem_cons_zero, List.getElem_cons_succ, Act.put, List.setIfInBounds_toArray, List.set_cons_zero, List.set_cons_succ]
          refine wpAnyH_take (i := 6) (oi := _) (v := ?vsxa6) rfl (by kernel_rfl) (by kernel_rfl) (by kernel_rfl) (fun _ _ _ h => h) (Or.inl ⟨by rfl, ?ysxa6⟩) (by assumption) ?rsxa6
          case ysxa6 => (intro w hSw; (try dsimp only at hSw); go_simp; try with_reducible rfl)
          try simp only [List.getElem_toArray, List.getElem_cons_zero, List.getElem_cons_succ, Act.put, List.setIfInBounds_toArray, List.set_cons_zero, List.set_cons_succ]
          refine wpAnyH_ready (rs := [7]) (by kernel_rfl) (by simp) ?_
          refine AllReadyH.cons (o := _) rfl (fun K hK => ?_) AllReadyH.nil
          go_simp
          refine hK.out _ _ ⟨hHeld.1.alloc _, hHeld.2.below ((Below.refl _ _).alloc (Nat.le_refl _) _)⟩ (fun hHeld3 => ?_)
          have hHw := hHeld
          clear hK K hHeld
          try simp only [List.getElem_toArray, List.getElem_cons_zero, List.getElem_cons_succ, Act.put, List.setIfInBounds_toArray, List.set_cons_zero, List.set_cons_succ]
          refine wpAnyH_ready (rs := [8]) (by kernel_rfl) (by simp) ?_
          refine AllReadyH.cons (o := _) rfl (fun K hK => ?_) AllReadyH.nil
          go_simp
          refine hK.out _ _ ?hssxa ?hcsxa
          case hssxa => first | exact ⟨hHw.1.alloc _, hHw.2.below ((Below.refl _ _).alloc (Nat.le_refl _) _)⟩
          intro hHeld4
          clear hK K hHeld3
          try simp only [List.getElem_toArray, List.getElem_cons_zero, List.getElem_cons_succ, Act.put, List.setIfInBounds_toArray, List.set_cons_zero, List.set_cons_succ]
          refine wpAnyH_take (i := 9) (oi := _) (v := ?vsxa9) rfl (by kernel_rfl) (by kernel_rfl) (by kernel_rfl) (fun _ _ _ h => h) (Or.inl ⟨by rfl, ?ysxa9⟩) (by assumption) ?rsxa9
          case ysxa9 => (intro w hSw; (try dsimp only at hSw); go_simp; try with_reducible rfl)
          try simp only [List.getElem_toArray, List.getElem_cons_zero, List.getElem_cons_succ, Act.put, List.setIfInBounds_toArray, List.set_cons_zero, List.set_cons_succ]
          refine wpAnyH_done (by kernel_rfl) ?_ _
          go_wp2_with fail
          go_meet
          case rel => exact ⟨w4.heap.size, rfl, rfl, by simp, by simp, hHw.1.alloc _, (Z2.out.drew.below b4'.out).alloc _, (below_then B2.out.drew b4'.out).alloc (below_then B2.out.drew b4'.out).size _⟩
        · go_simp
          refine hK.out _ _ (hHeld.alloc _) (fun hHeld3 => ?_)
          have hHw := hHeld
          clear hK K hHeld
          have hHeld := hHeld3
          clear hHeld3
          try simp only [List.getElem_toArray, List.getElem_cons_zero, List.getElem_cons_succ, Act.put, List.setIfInBounds_toArray, List.set_cons_zero, List.set_cons_succ]
          refine wpAnyH_ready (rs := [0]) (by kernel_rfl) (by simp) ?_
          refine AllReadyH.cons (o := _) rfl (fun K hK => ?_) AllReadyH.nil
          go_simp
          refine (forms_any _).mono ?_
          rintro e w4 ⟨m, rfl, hmap, b4, hm4⟩
          go_wp2_with fail
          refine hK.out _ _ (hHeld.below b4) (fun hHeld2 => ?_)
          have b4' := hid b4
          clear hK K b4
          try simp only [List.getElem_toArray, List.getElem_cons_zero, List.getElem_cons_succ, Act.put, List.setIfInBounds_toArray, List.set_cons_zero, List.set_cons_succ]
          refine Reg.swap (T := (fun w' => CmdIs w' w2.heap.size W [] (.slice none 0 0) 0 ∧ MapAt w' m formsV)) (fun w h => h.1) _ _ _ _ ?_
          have hHeld : (fun w' => CmdIs w' w2.heap.size W [] (.slice none 0 0) 0 ∧ MapAt w' m formsV) w4 := ⟨hHeld2, hmap⟩
          clear hHeld2
          refine wpAnyH_take (i := 3) (oi := _) (v := ?vsxb3) rfl (by kernel_rfl) (by kernel_rfl) (by kernel_rfl) (fun _ _ _ h => h) (Or.inl ⟨by rfl, ?ysxb3⟩) (by assumption) ?rsxb3
          case ysxb3 => (intro w hSw; (try dsimp only at hSw); have hlk := run_look_ok Tryz.underlying46 Tryz.underlying9 hSw.2 W (zero_form w); rw [hlk2] at hlk; go_simp; try with_reducible rfl)
          try simp only [List.getElem_toArray, List.getElem_cons_zero, List.getElem_cons_succ, Act.put, List.setIfInBounds_toArray, List.set_cons_zero, List.set_cons_succ]
          refine wpAnyH_take (i := 4) (oi := _) (v := ?vsxb4) rfl (by kernel_rfl) (by kernel_rfl) (by kernel_rfl) (fun _ _ _ h => h) (Or.inl ⟨by rfl, ?ysxb4⟩) (by assumption) ?rsxb4
          case ysxb4 => (intro w hSw; (try dsimp only at hSw); go_simp; try with_reducible rfl)
          try simp only [List.getElem_toArray, List.getElem_cons_zero, List.getElem_cons_succ, Act.put, List.setIfInBounds_toArray, List.set_cons_zero, List.set_cons_succ]
          refine wpAnyH_take (i := 5) (oi := _) (v := ?vsxb5) rfl (by kernel_rfl) (by kernel_rfl) (by kernel_rfl) (fun _ _ _ h => h) (Or.inl ⟨by rfl, ?ysxb5⟩) (by assumption) ?rsxb5
          case ysxb5 => (intro w hSw; (try dsimp only at hSw); go_simp; try with_reducible rfl)
          try simp only [List.getElem_toArray, List.getElem_cons_zero, List.getElem_cons_succ, Act.put, List.setIfInBounds_toArray, List.set_cons_zero, List.set_cons_succ]
          refine wpAnyH_take (i := 6) (oi := _) (v := ?vsxb6) rfl (by kernel_rfl) (by kernel_rfl) (by kernel_rfl) (fun _ _ _ h => h) (Or.inl ⟨by rfl, ?ysxb6⟩) (by assumption) ?rsxb6
          case ysxb6 => (intro w hSw; (try dsimp only at hSw); go_simp; try with_reducible rfl)
          try simp only [List.getElem_toArray, List.getElem_cons_zero, List.getElem_cons_succ, Act.put, List.setIfInBounds_toArray, List.set_cons_zero, List.set_cons_succ]
          have blk : w4.heap[w2.heap.size + 1]? = some (.cells #[.string (str []), .nilFunc] 44 (0, 0)) := (b4'.out.block (w2.heap.size + 1) (by simp)).trans (two_new w2 _ _)
          have cA := cells_at blk 0
          have cB := cells_at blk 1
          have fA := free_at blk 0
          have fB := free_at blk 1
          have cA : w4.cell? ⟨w2.heap.size + 1, 0, none⟩ = some (.string (str [])) := cA
          have cB : w4.cell? ⟨w2.heap.size + 1, 1, none⟩ = some .nilFunc := cB
          have hm8 : m ≠ w2.heap.size + 1 := by have : w2.heap.size + 2 ≤ m := (by simpa using hm4); omega
          have hb8 : w2.heap.size ≠ w2.heap.size + 1 := by omega
          have hHeld3 := hHeld
          have HM4 := hid hm4
          clear hHeld hm4
          refine wpAnyH_ready (rs := [8]) (by kernel_rfl) (by simp) ?_
          refine AllReadyH.cons (o := _) rfl (fun K hK => ?_) AllReadyH.nil
          go_simp
          refine hK.out _ _ ?hssxb ?hcsxb
          case hssxb => first | exact ⟨(hHeld3.1.far hb8 _).far hb8 _, (hHeld3.2.far hm8 _).far hm8 _⟩
          intro hHeld4
          clear hK K hHeld3
          try simp only [List.getElem_toArray, List.getElem_cons_zero, List.getElem_cons_succ, Act.put, List.setIfInBounds_toArray, List.set_cons_zero, List.set_cons_succ]
          refine wpAnyH_take (i := 9) (oi := _) (v := ?vsxb9) rfl (by kernel_rfl) (by kernel_rfl) (by kernel_rfl) (fun _ _ _ h => h) (Or.inl ⟨by rfl, ?ysxb9⟩) (by assumption) ?rsxb9
          case ysxb9 => (intro w hSw; (try dsimp only at hSw); go_simp; try with_reducible rfl)
          try simp only [List.getElem_toArray, List.getElem_cons_zero, List.getElem_cons_succ, Act.put, List.setIfInBounds_toArray, List.set_cons_zero, List.set_cons_succ]
          refine wpAnyH_done (by kernel_rfl) ?_ _
          go_wp2_with fail
          go_meet
          case rel => exact ⟨w2.heap.size + 1, rfl, rfl, by rw [cells_at (block_set (block_set blk _) _)]; rfl, by rw [cells_at (block_set (block_set blk _) _)]; rfl, hHeld4.1, ((CmdIs.below (CmdIs.drew (Z2.out.alloc _)) b4'.out).far (by have := N2.out; omega) _).far (by have := N2.out; omega) _, ((below_then (B2.out.alloc B2.out.size _).drew b4'.out).setCell (p := ⟨w2.heap.size + 1, 0, none⟩) (by have := N2.out; simp; omega) _).setCell (p := ⟨w2.heap.size + 1, 1, none⟩) (by have := N2.out; simp; omega) _⟩
      case rest =>
        obtain ⟨b8, rfl, rfl, k0, k1, kc, kz, kb⟩ := hcut
        have KC := hid kc
        have KZ := hid kz
        have KB := hid kb
        have HP := hid hP
        clear kc hP kb
        have hrd := hread w2.heap.size _ (hG.below KB.out) G2.out KC.out
        have hNb : w.heap.size ≠ w2.heap.size := Nat.ne_of_lt N2.out
        have hrz := str_size rest
        have hNl : w.heap.size ≤ w2.heap.size := Nat.le_of_lt N2.out
        rcases hway with ⟨e1, e3, e4⟩ | ⟨e1, e3, c, hix, e2, e4, e5⟩ | ⟨e1, e3, c, hix, e2, e4, e5⟩
        rotate_left 2
        · have y0 := kz.c0
          have y1 := kz.c1
          have y2 := kz.c2
          have y3 := kz.c3
          have f0 := kz.free 0
          have f1 := kz.free 1
          have f2 := kz.free 2
          have f3 := kz.free 3
          clear kz hrd
          go_wp2_with fail
          have hP := HP.out
          rw [if_pos e4] at hP
          obtain ⟨h1, h2⟩ := Prod.mk.inj hP
          subst h1 h2
          refine bodyPost_ret (v := .tuple #[.agg #[.string (str []), .string (str []), .slice none 0 0, .int .i64 0], .int .i64 161]) (by first | (simp [results, Tryz.results7, go_sem, y0, y1, y2, y3]; done) | (simp [results, Tryz.results7, go_sem, y0, y1, y2, y3]; rfl)) rfl ⟨none, 0, rfl, hnil _ ?_, ?_⟩
          · simpa [World.setCell] using KB.out.size
          · exact (((KB.out.setCell (by simp) _).setCell (by simp) _).setCell (by simp) _).setCell (by simp) _
        all_goals
          have hP := HP.out
          rw [if_neg e4] at hP
          cases hR : readR kd key W rest with
          | error x =>
            rw [hR] at hP hrd
            by_cases hx0 : x = 0
            · exfalso
              subst hx0
              have : ¬ (∃ e w', GotIs wc w' w2.heap.size W e (.error 0)) := fun ⟨_, _, _, h, _⟩ => h rfl
              exact herr hR
            have hx1 : (x != 0) = true := by simpa using hx0
            have HP2 := hid hP
            clear hP HP hR e4
            go_wp2_with (refine hrd.mono ?_; rintro e w5 ⟨rfl, -, o5⟩; have kz : CmdIs w5 w.heap.size [] [] (.slice none 0 0) 0 := ⟨(o5.block hNb KZ.out.lt).trans KZ.out.blk⟩; have y0 := kz.c0; have y1 := kz.c1; have y2 := kz.c2; have y3 := kz.c3; have f0 := kz.free 0; have f1 := kz.free 1; have f2 := kz.free 2; have f3 := kz.free 3; have O5 := hid o5; clear kz o5)
            obtain ⟨h1, h2⟩ := Prod.mk.inj HP2.out
            subst h1 h2
            have L5 := KB.out.trans (O5.out.low.mono hNl)
            refine bodyPost_ret (v := .tuple #[.agg #[.string (str []), .string (str []), .slice none 0 0, .int .i64 0], .int .i64 x]) (by first | (simp [results, Tryz.results7, go_sem, y0, y1, y2, y3]; done) | (simp [results, Tryz.results7, go_sem, y0, y1, y2, y3]; rfl)) rfl ⟨none, 0, rfl, hnil _ ?_, ?_⟩
            · simpa [World.setCell] using L5.size
            · exact (((L5.setCell (by simp) _).setCell (by simp) _).setCell (by simp) _).setCell (by simp) _
          | ok q =>
            obtain ⟨pp, aa, nn⟩ := q
            rw [hR] at hP hrd
            have HP2 := hid hP
            clear hP HP hR e4
            go_wp2_with (refine hrd.mono ?_; rintro e w5 ⟨rfl, o5, v5, hblk, hsb⟩; obtain ⟨A5, c5, rfl, -, -⟩ := hsb.full; have kq : CmdIs w5 w2.heap.size W pp _ nn := ⟨hblk⟩; have z0 := kq.c0; have z1 := kq.c1; have z2 := kq.c2; have z3 := kq.c3; have kz : CmdIs w5 w.heap.size [] [] (.slice none 0 0) 0 := ⟨(o5.block hNb KZ.out.lt).trans KZ.out.blk⟩; have y0 := kz.c0; have y1 := kz.c1; have y2 := kz.c2; have y3 := kz.c3; have f0 := kz.free 0; have f1 := kz.free 1; have f2 := kz.free 2; have f3 := kz.free 3; have O5 := hid o5; have SB := hid hsb; clear kz o5 kq hblk hsb)
            obtain ⟨h1, h2⟩ := Prod.mk.inj HP2.out
            subst h1 h2
            have L5 := KB.out.trans (O5.out.low.mono hNl)
            refine bodyPost_ret (v := .tuple #[.agg #[.string (str W), .string (str pp), .slice A5 aa.length c5, .int .i64 nn], .int .i64 0]) (by first | (simp [results, Tryz.results7, go_sem, y0, y1, y2, y3]; done) | (simp [results, Tryz.results7, go_sem, y0, y1, y2, y3]; rfl)) rfl ⟨A5, c5, rfl, SBuf.mono ((((SB.out.only (Only.set _ w.heap.size _ _) (Nat.lt_succ_of_le hNl)).only (Only.set _ w.heap.size _ _) (Nat.lt_succ_of_le hNl)).only (Only.set _ w.heap.size _ _) (Nat.lt_succ_of_le hNl)).only (Only.set _ w.heap.size _ _) (Nat.lt_succ_of_le hNl)) (Nat.le_succ_of_le hNl), ?_⟩
            exact (((L5.setCell (by simp) _).setCell (by simp) _).setCell (by simp) _).setCell (by simp) _
    · go_enter Tryz.func7, Tryz.ntmps7
      go_upto_region 7 with (first | (go_at_call 15; refine (hC2 _).mono ?_; rintro e w1 ⟨rfl, b1⟩; have B1 := hid (below_then B0.out b1); have Z1 := hid (Z0.out.below b1); clear b1) | (go_at_call 16; refine (hgr _).mono ?_; rintro e w2 ⟨rfl, b2⟩; have d2 := below_then B1.out b2; have B2 := hid (d2.alloc d2.size (.cells #[.string (str W), .string (str []), .slice none 0 0, .int .i64 0] 25)); have Z2 := hid ((Z1.out.below b2).alloc (.cells #[.string (str W), .string (str []), .slice none 0 0, .int .i64 0] 25)); have C2 := hid (CmdIs.new w2 W [] (.slice none 0 0) 0); have G2 := hid (hG.below d2).gb; have N2 := hid (Z1.out.below b2).lt; clear b2 d2) | (go_at_call 17; refine (htr _).mono ?_; rintro e w3 ⟨rfl, rfl⟩))
      go_cut [8, 9] (fun v8 v9 wx => ∃ b8, v8 = .pointer (some ⟨b8, 0, none⟩) ∧ v9 = .bool true ∧ wx.cell? ⟨b8, 0, none⟩ = some (.string (str key)) ∧ wx.cell? ⟨b8, 1, none⟩ = some (.func (.func fid) #[] #[]) ∧ CmdIs wx w2.heap.size W [] (.slice none 0 0) 0 ∧ CmdIs wx w.heap.size [] [] (.slice none 0 0) 0 ∧ Below w.heap.size w wx)
      case first =>
        go_wp2_with fail
        refine wp_region_held_drew (S := (fun w' => CmdIs w' w2.heap.size W [] (.slice none 0 0) 0)) (by kernel_rfl) C2.out.drew (fun hHeld => ?_)
        refine wpAnyH_take (i := 1) (oi := _) (v := ?vsy1) rfl (by kernel_rfl) (by kernel_rfl) (by kernel_rfl) (fun _ _ _ h => h) (Or.inl ⟨by rfl, ?ysy1⟩) (by assumption) ?rsy1
        case ysy1 => (intro w hSw; (try dsimp only at hSw); go_simp; try with_reducible rfl)
        try simp only [List.getElem_toArray, List.getElem_cons_zero, List.getElem_cons_succ, Act.put, List.setIfInBounds_toArray, List.set_cons_zero, List.set_cons_succ]
        refine wpAnyH_take (i := 2) (oi := _) (v := ?vsy2) rfl (by kernel_rfl) (by kernel_rfl) (by kernel_rfl) (fun _ _ _ h => h) (Or.inl ⟨by rfl, ?ysy2⟩) (by assumption) ?rsy2
        case ysy2 => (intro w hSw; (try dsimp only at hSw); have c0 := hSw.c0; go_simp; try with_reducible rfl)
        try simp only [List.getElem_toArray, List.getElem_cons_zero, List.getElem_cons_succ, Act.put, List.setIfInBounds_toArray, List.set_cons_zero, List.set_cons_succ]
        refine wpAnyH_ready (rs := [0, 7]) (by kernel_rfl) (by simp) ?_
        refine AllReadyH.cons (o := _) rfl (fun K hK => ?_) (AllReadyH.cons (o := _) rfl (fun K hK => ?_) AllReadyH.nil)
        · go_simp
          refine (forms_any _).mono ?_
          rintro e w4 ⟨m, rfl, hmap, b4, hm4⟩
          go_wp2_with fail
          refine hK.out _ _ (hHeld.below b4) (fun hHeld2 => ?_)
          have b4' := hid b4
          clear hK K b4
          try simp only [List.getElem_toArray, List.getElem_cons_zero, List.getElem_cons_succ, Act.put, List.setIfInBounds_toArray, List.set_cons_zero, List.set_cons_succ]
          refine Reg.swap (T := (fun w' => CmdIs w' w2.heap.size W [] (.slice none 0 0) 0 ∧ MapAt w' m formsV)) (fun w h => h.1) _ _ _ _ ?_
          have hHeld : (fun w' => CmdIs w' w2.heap.size W [] (.slice none 0 0) 0 ∧ MapAt w' m formsV) w4 := ⟨hHeld2, hmap⟩
          clear hHeld2
          refine wpAnyH_take (i := 3) (oi := _) (v := ?vsya3) rfl (by kernel_rfl) (by kernel_rfl) (by kernel_rfl) (fun _ _ _ h => h) (Or.inl ⟨by rfl, ?ysya3⟩) (by assumption) ?rsya3
          case ysya3 => (intro w hSw; (try dsimp only at hSw); have hlk := run_look_ok Tryz.underlying46 Tryz.underlying9 hSw.2 W (zero_form w); rw [hlk2] at hlk; go_simp; try with_reducible rfl)
          try simp only [List.getElem_toArray, List.getElem_cons_zero, List.getElem_cons_succ, Act.put, List.setIfInBounds_toArray, List.set_cons_zero, List.set_cons_succ]
          refine wpAnyH_take (i := 4) (oi := _) (v := ?vsya4) rfl (by kernel_rfl) (by kernel_rfl) (by kernel_rfl) (fun _ _ _ h => h) (Or.inl ⟨by rfl, ?ysya4⟩) (by assumption) ?rsya4
          case ysya4 => (intro w hSw; (try dsimp only at hSw); go_simp; try with_reducible rfl)
          try simp only [List.getElem_toArray, List.getElem_cons_zero, List.getElem_cons_succ, Act.put, List.setIfInBounds_toArray, List.set_cons_zero, List.set_cons_succ]
          refine wpAnyH_take (i := 5) (oi := _) (v := ?vsya5) rfl (by kernel_rfl) (by kernel_rfl) (by kernel_rfl) (fun _ _ _ h => h) (Or.inl ⟨by rfl, ?ysya5⟩) (by assumption) ?rsya5
          case ysya5 => (intro w hSw; (try dsimp only at hSw); go_simp; try with_reducible rfl)
          try simp only [List.getElem_toArray, List.getElem_cons_zero, List.getElem_cons_succ, Act.put, List.setIfInBounds_toArray, List.set_cons_zero, List.set_cons_succ]
          refine wpAnyH_take (i := 6) (oi := _) (v := ?vsya6) rfl (by kernel_rfl) (by kernel_rfl) (by kernel_rfl) (fun _ _ _ h => h) (Or.inl ⟨by rfl, ?ysya6⟩) (by assumption) ?rsya6
          case ysya6 => (intro w hSw; (try dsimp only at hSw); go_simp; try with_reducible rfl)
          try simp only [List.getElem_toArray, List.getElem_cons_zero, List.getElem_cons_succ, Act.put, List.setIfInBounds_toArray, List.set_cons_zero, List.set_cons_succ]
          refine wpAnyH_ready (rs := [7]) (by kernel_rfl) (by simp) ?_
          refine AllReadyH.cons (o := _) rfl (fun K hK => ?_) AllReadyH.nil
          go_simp
          refine hK.out _ _ ⟨hHeld.1.alloc _, hHeld.2.below ((Below.refl _ _).alloc (Nat.le_refl _) _)⟩ (fun hHeld3 => ?_)
          have hHw := hHeld
          clear hK K hHeld
          try simp only [List.getElem_toArray, List.getElem_cons_zero, List.getElem_cons_succ, Act.put, List.setIfInBounds_toArray, List.set_cons_zero, List.set_cons_succ]
          refine wpAnyH_ready (rs := [8]) (by kernel_rfl) (by simp) ?_
          refine AllReadyH.cons (o := _) rfl (fun K hK => ?_) AllReadyH.nil
          go_simp
          refine hK.out _ _ ?hssya ?hcsya
          case hssya => first | exact ⟨hHw.1.alloc _, hHw.2.below ((Below.refl _ _).alloc (Nat.le_refl _) _)⟩
          intro hHeld4
          clear hK K hHeld3
          try simp only [List.getElem_toArray, List.getElem_cons_zero, List.getElem_cons_succ, Act.put, List.setIfInBounds_toArray, List.set_cons_zero, List.set_cons_succ]
          refine wpAnyH_take (i := 9) (oi := _) (v := ?vsya9) rfl (by kernel_rfl) (by kernel_rfl) (by kernel_rfl) (fun _ _ _ h => h) (Or.inl ⟨by rfl, ?ysya9⟩) (by assumption) ?rsya9
          case ysya9 => (intro w hSw; (try dsimp only at hSw); go_simp; try with_reducible rfl)
          try simp only [List.getElem_toArray, List.getElem_cons_zero, List.getElem_cons_succ, Act.put, List.setIfInBounds_toArray, List.set_cons_zero, List.set_cons_succ]
          refine wpAnyH_done (by kernel_rfl) ?_ _
          go_wp2_with fail
          go_meet
          case rel => exact ⟨w4.heap.size, rfl, rfl, by simp, by simp, hHw.1.alloc _, (Z2.out.drew.below b4'.out).alloc _, (below_then B2.out.drew b4'.out).alloc (below_then B2.out.drew b4'.out).size _⟩
        · go_simp
          refine hK.out _ _ (hHeld.alloc _) (fun hHeld3 => ?_)
          have hHw := hHeld
          clear hK K hHeld
          have hHeld := hHeld3
          clear hHeld3
          try simp only [List.getElem_toArray, List.getElem_cons_zero, List.getElem_cons_succ, Act.put, List.setIfInBounds_toArray, List.set_cons_zero, List.set_cons_succ]
          refine wpAnyH_ready (rs := [0]) (by kernel_rfl) (by simp) ?_
          refine AllReadyH.cons (o := _) rfl (fun K hK => ?_) AllReadyH.nil
          go_simp
          refine (forms_any _).mono ?_
          rintro e w4 ⟨m, rfl, hmap, b4, hm4⟩
          go_wp2_with fail
          refine hK.out _ _ (hHeld.below b4) (fun hHeld2 => ?_)
          have b4' := hid b4
          clear hK K b4
          try simp only [List.getElem_toArray, List.getElem_cons_zero, List.getElem_cons_succ, Act.put, List.setIfInBounds_toArray, List.set_cons_zero, List.set_cons_succ]
          refine Reg.swap (T := (fun w' => CmdIs w' w2.heap.size W [] (.slice none 0 0) 0 ∧ MapAt w' m formsV)) (fun w h => h.1) _ _ _ _ ?_
          have hHeld : (fun w' => CmdIs w' w2.heap.size W [] (.slice none 0 0) 0 ∧ MapAt w' m formsV) w4 := ⟨hHeld2, hmap⟩
          clear hHeld2
          refine wpAnyH_take (i := 3) (oi := _) (v := ?vsyb3) rfl (by kernel_rfl) (by kernel_rfl) (by kernel_rfl) (fun _ _ _ h => h) (Or.inl ⟨by rfl, ?ysyb3⟩) (by assumption) ?rsyb3
          case ysyb3 => (intro w hSw; (try dsimp only at hSw); have hlk := run_look_ok Tryz.underlying46 Tryz.underlying9 hSw.2 W (zero_form w); rw [hlk2] at hlk; go_simp; try with_reducible rfl)
          try simp only [List.getElem_toArray, List.getElem_cons_zero, List.getElem_cons_succ, Act.put, List.setIfInBounds_toArray, List.set_cons_zero, List.set_cons_succ]
          refine wpAnyH_take (i := 4) (oi := _) (v := ?vsyb4) rfl (by kernel_rfl) (by kernel_rfl) (by kernel_rfl) (fun _ _ _ h => h) (Or.inl ⟨by rfl, ?ysyb4⟩) (by assumption) ?rsyb4
          case ysyb4 => (intro w hSw; (try dsimp only at hSw); go_simp; try with_reducible rfl)
          try simp only [List.getElem_toArray, List.getElem_cons_zero, List.getElem_cons_succ, Act.put, List.setIfInBounds_toArray, List.set_cons_zero, List.set_cons_succ]
          refine wpAnyH_take (i := 5) (oi := _) (v := ?vsyb5) rfl (by kernel_rfl) (by kernel_rfl) (by kernel_rfl) (fun _ _ _ h => h) (Or.inl ⟨by rfl, ?ysyb5⟩) (by assumption) ?rsyb5
          case ysyb5 => (intro w hSw; (try dsimp only at hSw); go_simp; try with_reducible rfl)
          try simp only [List.getElem_toArray, List.getElem_cons_zero, List.getElem_cons_succ, Act.put, List.setIfInBounds_toArray, List.set_cons_zero, List.set_cons_succ]
          refine wpAnyH_take (i := 6) (oi := _) (v := ?vsyb6) rfl (by kernel_rfl) (by kernel_rfl) (by kernel_rfl) (fun _ _ _ h => h) (Or.inl ⟨by rfl, ?ysyb6⟩) (by assumption) ?rsyb6
          case ysyb6 => (intro w hSw; (try dsimp only at hSw); go_simp; try with_reducible rfl)
          try simp only [List.getElem_toArray, List.getElem_cons_zero, List.getElem_cons_succ, Act.put, List.setIfInBounds_toArray, List.set_cons_zero, List.set_cons_succ]
          have blk : w4.heap[w2.heap.size + 1]? = some (.cells #[.string (str []), .nilFunc] 44 (0, 0)) := (b4'.out.block (w2.heap.size + 1) (by simp)).trans (two_new w2 _ _)
          have cA := cells_at blk 0
          have cB := cells_at blk 1
          have fA := free_at blk 0
          have fB := free_at blk 1
          have cA : w4.cell? ⟨w2.heap.size + 1, 0, none⟩ = some (.string (str [])) := cA
          have cB : w4.cell? ⟨w2.heap.size + 1, 1, none⟩ = some .nilFunc := cB
          have hm8 : m ≠ w2.heap.size + 1 := by have : w2.heap.size + 2 ≤ m := (by simpa using hm4); omega
          have hb8 : w2.heap.size ≠ w2.heap.size + 1 := by omega
          have hHeld3 := hHeld
          have HM4 := hid hm4
          clear hHeld hm4
          refine wpAnyH_ready (rs := [8]) (by kernel_rfl) (by simp) ?_
          refine AllReadyH.cons (o := _) rfl (fun K hK => ?_) AllReadyH.nil
          go_simp
          refine hK.out _ _ ?hssyb ?hcsyb
          case hssyb => first | exact ⟨(hHeld3.1.far hb8 _).far hb8 _, (hHeld3.2.far hm8 _).far hm8 _⟩
          intro hHeld4
          clear hK K hHeld3
          try simp only [List.getElem_toArray, List.getElem_cons_zero, List.getElem_cons_succ, Act.put, List.setIfInBounds_toArray, List.set_cons_zero, List.set_cons_succ]
          refine wpAnyH_take (i := 9) (oi := _) (v := ?vsyb9) rfl (by kernel_rfl) (by kernel_rfl) (by kernel_rfl) (fun _ _ _ h => h) (Or.inl ⟨by rfl, ?ysyb9⟩) (by assumption) ?rsyb9
          case ysyb9 => (intro w hSw; (try dsimp only at hSw); go_simp; try with_reducible rfl)
          try simp only [List.getElem_toArray, List.getElem_cons_zero, List.getElem_cons_succ, Act.put, List.setIfInBounds_toArray, List.set_cons_zero, List.set_cons_succ]
          refine wpAnyH_done (by kernel_rfl) ?_ _
          go_wp2_with fail
          go_meet
          case rel => exact ⟨w2.heap.size + 1, rfl, rfl, by rw [cells_at (block_set (block_set blk _) _)]; rfl, by rw [cells_at (block_set (block_set blk _) _)]; rfl, hHeld4.1, ((CmdIs.below (CmdIs.drew (Z2.out.alloc _)) b4'.out).far (by have := N2.out; omega) _).far (by have := N2.out; omega) _, ((below_then (B2.out.alloc B2.out.size _).drew b4'.out).setCell (p := ⟨w2.heap.size + 1, 0, none⟩) (by have := N2.out; simp; omega) _).setCell (p := ⟨w2.heap.size + 1, 1, none⟩) (by have := N2.out; simp; omega) _⟩
      case rest =>
        obtain ⟨b8, rfl, rfl, k0, k1, kc, kz, kb⟩ := hcut
        have KC := hid kc
        have KZ := hid kz
        have KB := hid kb
        have HP := hid hP
        clear kc hP kb
        have hrd := hread w2.heap.size _ (hG.below KB.out) G2.out KC.out
        have hNb : w.heap.size ≠ w2.heap.size := Nat.ne_of_lt N2.out
        have hrz := str_size rest
        have hNl : w.heap.size ≤ w2.heap.size := Nat.le_of_lt N2.out
        rcases hway with ⟨e1, e3, e4⟩ | ⟨e1, e3, c, hix, e2, e4, e5⟩ | ⟨e1, e3, c, hix, e2, e4, e5⟩
        rotate_left 2
        · have y0 := kz.c0
          have y1 := kz.c1
          have y2 := kz.c2
          have y3 := kz.c3
          have f0 := kz.free 0
          have f1 := kz.free 1
          have f2 := kz.free 2
          have f3 := kz.free 3
          clear kz hrd
          go_wp2_with fail
          have hP := HP.out
          rw [if_pos e4] at hP
          obtain ⟨h1, h2⟩ := Prod.mk.inj hP
          subst h1 h2
          refine bodyPost_ret (v := .tuple #[.agg #[.string (str []), .string (str []), .slice none 0 0, .int .i64 0], .int .i64 161]) (by first | (simp [results, Tryz.results7, go_sem, y0, y1, y2, y3]; done) | (simp [results, Tryz.results7, go_sem, y0, y1, y2, y3]; rfl)) rfl ⟨none, 0, rfl, hnil _ ?_, ?_⟩
          · simpa [World.setCell] using KB.out.size
          · exact (((KB.out.setCell (by simp) _).setCell (by simp) _).setCell (by simp) _).setCell (by simp) _
        all_goals
          have hP := HP.out
          rw [if_neg e4] at hP
          cases hR : readR kd key W rest with
          | error x =>
            rw [hR] at hP hrd
            by_cases hx0 : x = 0
            · exfalso
              subst hx0
              have : ¬ (∃ e w', GotIs wc w' w2.heap.size W e (.error 0)) := fun ⟨_, _, _, h, _⟩ => h rfl
              exact herr hR
            have hx1 : (x != 0) = true := by simpa using hx0
            have HP2 := hid hP
            clear hP HP hR e4
            go_wp2_with (refine hrd.mono ?_; rintro e w5 ⟨rfl, -, o5⟩; have kz : CmdIs w5 w.heap.size [] [] (.slice none 0 0) 0 := ⟨(o5.block hNb KZ.out.lt).trans KZ.out.blk⟩; have y0 := kz.c0; have y1 := kz.c1; have y2 := kz.c2; have y3 := kz.c3; have f0 := kz.free 0; have f1 := kz.free 1; have f2 := kz.free 2; have f3 := kz.free 3; have O5 := hid o5; clear kz o5)
            obtain ⟨h1, h2⟩ := Prod.mk.inj HP2.out
            subst h1 h2
            have L5 := KB.out.trans (O5.out.low.mono hNl)
            refine bodyPost_ret (v := .tuple #[.agg #[.string (str []), .string (str []), .slice none 0 0, .int .i64 0], .int .i64 x]) (by first | (simp [results, Tryz.results7, go_sem, y0, y1, y2, y3]; done) | (simp [results, Tryz.results7, go_sem, y0, y1, y2, y3]; rfl)) rfl ⟨none, 0, rfl, hnil _ ?_, ?_⟩
            · simpa [World.setCell] using L5.size
            · exact (((L5.setCell (by simp) _).setCell (by simp) _).setCell (by simp) _).setCell (by simp) _
          | ok q =>
            obtain ⟨pp, aa, nn⟩ := q
            rw [hR] at hP hrd
            have HP2 := hid hP
            clear hP HP hR e4
            go_wp2_with (refine hrd.mono ?_; rintro e w5 ⟨rfl, o5, v5, hblk, hsb⟩; obtain ⟨A5, c5, rfl, -, -⟩ := hsb.full; have kq : CmdIs w5 w2.heap.size W pp _ nn := ⟨hblk⟩; have z0 := kq.c0; have z1 := kq.c1; have z2 := kq.c2; have z3 := kq.c3; have kz : CmdIs w5 w.heap.size [] [] (.slice none 0 0) 0 := ⟨(o5.block hNb KZ.out.lt).trans KZ.out.blk⟩; have y0 := kz.c0; have y1 := kz.c1; have y2 := kz.c2; have y3 := kz.c3; have f0 := kz.free 0; have f1 := kz.free 1; have f2 := kz.free 2; have f3 := kz.free 3; have O5 := hid o5; have SB := hid hsb; clear kz o5 kq hblk hsb)
            obtain ⟨h1, h2⟩ := Prod.mk.inj HP2.out
            subst h1 h2
            have L5 := KB.out.trans (O5.out.low.mono hNl)
            refine bodyPost_ret (v := .tuple #[.agg #[.string (str W), .string (str pp), .slice A5 aa.length c5, .int .i64 nn], .int .i64 0]) (by first | (simp [results, Tryz.results7, go_sem, y0, y1, y2, y3]; done) | (simp [results, Tryz.results7, go_sem, y0, y1, y2, y3]; rfl)) rfl ⟨A5, c5, rfl, SBuf.mono ((((SB.out.only (Only.set _ w.heap.size _ _) (Nat.lt_succ_of_le hNl)).only (Only.set _ w.heap.size _ _) (Nat.lt_succ_of_le hNl)).only (Only.set _ w.heap.size _ _) (Nat.lt_succ_of_le hNl)).only (Only.set _ w.heap.size _ _) (Nat.lt_succ_of_le hNl)) (Nat.le_succ_of_le hNl), ?_⟩
            exact (((L5.setCell (by simp) _).setCell (by simp) _).setCell (by simp) _).setCell (by simp) _

end Go.Proofs.YtdbggicpcbecdaaGreatDoor
