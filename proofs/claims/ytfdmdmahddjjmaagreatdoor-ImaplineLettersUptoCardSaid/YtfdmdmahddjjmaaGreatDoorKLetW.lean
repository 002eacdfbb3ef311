/-
  ImaplineLetters: the walk.
-/
import Derived.Test.YtfdmdmahddjjmaaGreatDoorPkL
import Derived.Test.YtfdmdmahddjjmaaGreatDoorKImAll
import Derived.Test.YtfdmdmahddjjmaaGreatDoorKImZ
namespace Go.Proofs.YtfdmdmahddjjmaaGreatDoor
open Go.RowKit Own Im
set_option linter.unusedVariables false
set_option linter.unusedSimpArgs false
set_option maxRecDepth 100000
attribute [local go_sem] str_toList str_size

theorem GBuf.slots {e : TypeId} {sz B : Nat} {w : World} {A : Option Addr} {n0 c n : Nat} {xs : List Value} (h : GBuf e sz B w (.slice A n0 c) n xs) : n0 = n ∧ (n ≠ 0 → ∃ g, A = some ⟨g, 0, none⟩ ∧ B ≤ g ∧ ∀ (j : Nat) u, xs[j]? = some u → w.cell? ⟨g, j, none⟩ = some u) := by
  obtain ⟨A', c', hv, -, ha, hs⟩ := h.full
  injection hv with h1 h2 h3
  subst h1 h2
  refine ⟨rfl, fun hn => ?_⟩
  cases A with
  | none => exact absurd (ha rfl).1 hn
  | some p =>
    obtain ⟨g, rfl, h3, h4⟩ := hs p rfl
    exact ⟨g, rfl, h3, h4⟩

set_option maxHeartbeats 16000000 in
theorem letters_walk (s : List UInt8) (w : World) (hG : Gd w) (hs : s.length ≤ 1048576) :
    Calls Tryz.prog 3 #[.string (str s)] w fun e w' => e = .returned (.bool true) ∧ Below w.heap.size w w' := by
  have HG := hid hG
  clear hG
  have htg := fun W hW => tag_any s W hW (by omega)
  by_cases ht : tagS s = []
  · rw [ht] at htg
    go_enter Tryz.func3, Tryz.ntmps3
    go_wp2_with (first
      | (go_at_call 8; refine (shown_any w HG.out).mono ?_; rintro e w1 ⟨rfl, c1⟩; have b1 := hid c1; clear c1)
      | (go_at_call 9; refine (htg _ (HG.out.below b1.out).c.a).mono ?_; rintro e w2 ⟨rfl, c2⟩; have b2 := hid (below_then b1.out c2); clear c2))
    go_ret
    exact ⟨rfl, b2.out⟩
  obtain ⟨r, hsr, -⟩ := tag_law ht
  have hlaw := (letters_law ht hsr).1
  obtain ⟨tag, htag⟩ : ∃ t, t = tagS s := ⟨_, rfl⟩
  rw [← htag] at htg ht hsr hlaw
  clear htag
  obtain ⟨rest, hrest⟩ : ∃ x, x = 32 :: r := ⟨_, rfl⟩
  rw [← hrest] at hsr hlaw
  clear hrest
  have hex : (str s).extract tag.length s.length = str rest := by rw [str_from _ _ _ rfl, hsr]; simp
  have hsl : s.length = tag.length + rest.length := by rw [hsr]; simp
  have hte : (tag == []) = false := by simpa using ht
  have hsm := fun W => rsmall_any rest W (by omega)
  have hgr := fun W => rgreat_any rest W (by omega)
  obtain ⟨lo, hlo⟩ : ∃ x, x = low rest := ⟨_, rfl⟩
  obtain ⟨gr, hgr0⟩ : ∃ x, x = great rest := ⟨_, rfl⟩
  rw [← hlo, ← hgr0] at hlaw
  rw [show rest.map (moveB 65 97) = lo from hlo.symm] at hsm
  rw [show rest.map (moveB 97 65) = gr from hgr0.symm] at hgr
  have ll : lo.length = rest.length := by rw [hlo]; simp
  have lg : gr.length = rest.length := by rw [hgr0]; simp [great]
  have s1 := str_append tag lo
  have s2 := str_append tag gr
  obtain ⟨L1, hL1⟩ : ∃ L, L = tag ++ lo := ⟨_, rfl⟩
  obtain ⟨L2, hL2⟩ : ∃ L, L = tag ++ gr := ⟨_, rfl⟩
  rw [← hL1] at s1 hlaw
  rw [← hL2] at s2 hlaw
  have k1 : tag.length + lo.length ≤ 1048576 := by omega
  have k2 : tag.length + gr.length ≤ 1048576 := by omega
  have l1 : L1.length ≤ 1048576 := by rw [hL1]; simp; omega
  have l2 : L2.length ≤ 1048576 := by rw [hL2]; simp; omega
  obtain ⟨x1, e1, hp1⟩ : ∃ x e, parseS L1 = (x, e) := ⟨_, _, rfl⟩
  obtain ⟨x2, e2, hp2⟩ : ∃ x e, parseS L2 = (x, e) := ⟨_, _, rfl⟩
  rw [hp1, hp2] at hlaw
  have HP1 := hid hp1
  have HP2 := hid hp2
  have LAW := hid hlaw
  have hle : tag.length ≤ s.length := by omega
  have hrl : rest.length ≤ s.length := by omega
  clear hp1 hp2 hlaw hL1 hL2 hlo hgr0 ll lg ht hsr hsl
  have tok0 : Tk 0 := ⟨⟩
  go_enter Tryz.func3, Tryz.ntmps3
  go_upto_region 8 with (first
    | (go_at_call 8; refine (shown_any w HG.out).mono ?_; rintro e w1 ⟨rfl, c1⟩; have b1 := hid c1; clear c1)
    | (go_at_call 9; refine (htg _ (HG.out.below b1.out).c.a).mono ?_; rintro e w2 ⟨rfl, c2⟩; have b2 := hid (below_then b1.out c2); clear c2)
    | (go_at_call 11; refine (hsm _).mono ?_; rintro e w3 ⟨rfl, c3⟩; have b3 := hid (below_then b2.out c3); clear c3)
    | (go_at_call 10; have t_ : Tk 0 := ‹Tk 0›; refine (parse_every L1 _ (HG.out.below b3.out) (by omega)).mono ?_; intro e w4 hp; rw [HP1.out] at hp; obtain ⟨⟨vs1, vn1, vi1, vk1, vl1⟩, rfl, hr1, hb⟩ := hp; dsimp only at hr1; obtain ⟨As1, ks1, hvs1, -, -⟩ := hr1.set.full; dsimp only at hvs1; subst hvs1; obtain ⟨An1, kn1, hvn1, -, -, -⟩ := hr1.names.full; dsimp only at hvn1; subst hvn1; obtain ⟨Ai1, ki1, hvi1, -, -, -⟩ := hr1.items.choose_spec.1.full; dsimp only at hvi1; subst hvi1; obtain ⟨Ay1, ky1, hvy1, -, -, -⟩ := hr1.keys.choose_spec.1.full; dsimp only at hvy1; subst hvy1; obtain ⟨Al1, kl1, hvl1, -, -⟩ := hr1.lit.full; dsimp only at hvl1; subst hvl1; have a5 := (Below.refl w4.heap.size w4).alloc (Nat.le_refl _) (.cells #[.string (str x1.tag), .string (str x1.word), .bool x1.uid, .slice As1 x1.set.length ks1, .string (str x1.box), .string (str x1.dest), .slice An1 x1.names.length kn1, .int .i64 x1.flags, .int .i64 x1.mode, .bool x1.silent, .slice Ai1 x1.items.length ki1, .slice Ay1 x1.keys.length ky1, .int .i64 x1.date, .slice Al1 x1.lit.length kl1] 30); have RW1 := hid (hr1.stays (Below.stays a5)); have K1 : Hid (CmAt (w4.alloc (.cells #[.string (str x1.tag), .string (str x1.word), .bool x1.uid, .slice As1 x1.set.length ks1, .string (str x1.box), .string (str x1.dest), .slice An1 x1.names.length kn1, .int .i64 x1.flags, .int .i64 x1.mode, .bool x1.silent, .slice Ai1 x1.items.length ki1, .slice Ay1 x1.keys.length ky1, .int .i64 x1.date, .slice Al1 x1.lit.length kl1] 30)) w4.heap.size x1 ⟨.slice As1 x1.set.length ks1, .slice An1 x1.names.length kn1, .slice Ai1 x1.items.length ki1, .slice Ay1 x1.keys.length ky1, .slice Al1 x1.lit.length kl1⟩) := hid (heap_alloc_new w4 _); have b5 := hid (below_then (below_then b3.out hb) a5); clear hr1 hb a5; dsimp only [cmC]; clear t_ tok0; have tok1 : Tk 1 := ⟨⟩)
    | (go_at_call 12; have t_ : Tk 1 := ‹Tk 1›; refine (hgr _).mono ?_; rintro e w6 ⟨rfl, c6⟩; have b6 := hid (below_then b5.out c6); have RW6 := hid (RW1.out.stays (Below.stays c6)); have K6 := hid (K1.out.below c6); clear c6; clear t_ tok1; have tok2 : Tk 2 := ⟨⟩)
    | (go_at_call 10; have t_ : Tk 2 := ‹Tk 2›; refine (parse_every L2 _ (HG.out.below b6.out) (by omega)).mono ?_; intro e w7 hp; rw [HP2.out] at hp; obtain ⟨⟨vs2, vn2, vi2, vk2, vl2⟩, rfl, hr2, hb⟩ := hp; dsimp only at hr2; obtain ⟨As2, ks2, hvs2, -, -⟩ := hr2.set.full; dsimp only at hvs2; subst hvs2; obtain ⟨An2, kn2, hvn2, -, -, -⟩ := hr2.names.full; dsimp only at hvn2; subst hvn2; obtain ⟨Ai2, ki2, hvi2, -, -, -⟩ := hr2.items.choose_spec.1.full; dsimp only at hvi2; subst hvi2; obtain ⟨Ay2, ky2, hvy2, -, -, -⟩ := hr2.keys.choose_spec.1.full; dsimp only at hvy2; subst hvy2; obtain ⟨Al2, kl2, hvl2, -, -⟩ := hr2.lit.full; dsimp only at hvl2; subst hvl2; have a8 := (Below.refl w7.heap.size w7).alloc (Nat.le_refl _) (.cells #[.string (str x2.tag), .string (str x2.word), .bool x2.uid, .slice As2 x2.set.length ks2, .string (str x2.box), .string (str x2.dest), .slice An2 x2.names.length kn2, .int .i64 x2.flags, .int .i64 x2.mode, .bool x2.silent, .slice Ai2 x2.items.length ki2, .slice Ay2 x2.keys.length ky2, .int .i64 x2.date, .slice Al2 x2.lit.length kl2] 30); have RW8 := hid ((RW6.out.stays (Below.stays hb)).stays (Below.stays a8)); have RW9 := hid (hr2.stays (Below.stays a8)); have K8 := hid ((K6.out.below hb).below a8); have K9 : Hid (CmAt (w7.alloc (.cells #[.string (str x2.tag), .string (str x2.word), .bool x2.uid, .slice As2 x2.set.length ks2, .string (str x2.box), .string (str x2.dest), .slice An2 x2.names.length kn2, .int .i64 x2.flags, .int .i64 x2.mode, .bool x2.silent, .slice Ai2 x2.items.length ki2, .slice Ay2 x2.keys.length ky2, .int .i64 x2.date, .slice Al2 x2.lit.length kl2] 30)) w7.heap.size x2 ⟨.slice As2 x2.set.length ks2, .slice An2 x2.names.length kn2, .slice Ai2 x2.items.length ki2, .slice Ay2 x2.keys.length ky2, .slice Al2 x2.lit.length kl2⟩) := hid (heap_alloc_new w7 _); have b8 := hid (below_then (below_then b6.out hb) a8); clear hr2 hb a8; dsimp only [cmC]; clear t_ tok2; have tok3 : Tk 3 := ⟨⟩))
  obtain ⟨W8, hW8⟩ : ∃ W, W = w7.alloc (.cells #[.string (str x2.tag), .string (str x2.word), .bool x2.uid, .slice As2 x2.set.length ks2, .string (str x2.box), .string (str x2.dest), .slice An2 x2.names.length kn2, .int .i64 x2.flags, .int .i64 x2.mode, .bool x2.silent, .slice Ai2 x2.items.length ki2, .slice Ay2 x2.keys.length ky2, .int .i64 x2.date, .slice Al2 x2.lit.length kl2] 30) := ⟨_, rfl⟩
  rw [← hW8] at RW8 RW9 K8 K9 b8
  rw [← hW8]
  clear hW8
  have hu1 := K8.out.lt
  have hu2 := K9.out.lt
  obtain ⟨P, hP⟩ : ∃ P, P = w4.heap.size := ⟨_, rfl⟩
  obtain ⟨Q, hQ⟩ : ∃ Q, Q = w7.heap.size := ⟨_, rfl⟩
  rw [← hP] at K8 hu1
  rw [← hQ] at K9 hu2
  rw [← hP, ← hQ]
  have en : ((x1.names.length : Int) == (x2.names.length : Int)) = true := by rw [LAW.out.names]; simp
  have ei : ((x1.items.length : Int) == (x2.items.length : Int)) = true := by rw [LAW.out.items]; simp
  have ek : ((x1.keys.length : Int) == (x2.keys.length : Int)) = true := by rw [LAW.out.keys.len]; simp
  have li : x1.items.length = x2.items.length := by rw [LAW.out.items]
  have lk : x1.keys.length = x2.keys.length := LAW.out.keys.len
  have LI := hid li
  have LK := hid lk
  obtain ⟨xs1, gi1, ti1⟩ := RW8.out.items
  obtain ⟨xs2, gi2, ti2⟩ := RW9.out.items
  obtain ⟨ys1, gy1, ty1⟩ := RW8.out.keys
  obtain ⟨ys2, gy2, ty2⟩ := RW9.out.keys
  have SI1 := hid gi1.slots
  have SI2 := hid gi2.slots
  have SY1 := hid gy1.slots
  have SY2 := hid gy2.slots
  have mi := gi1.max
  have my := gy1.max
  have TI1 := hid ti1
  have TI2 := hid ti2
  have TY1 := hid ty1
  have TY2 := hid ty2
  have c6 := K8.out.c6
  have d6 := K9.out.c6
  have c10 := K8.out.c10
  have d10 := K9.out.c10
  have c11 := K8.out.c11
  have d11 := K9.out.c11
  clear li lk gi1 gi2 gy1 gy2 ti1 ti2 ty1 ty2 hP hQ htg hsm hgr s1 s2 hte hex HP1 HP2 RW1 RW6 K1 K6 b1 b2 b3 b5 b6 tok3
  unfold maxLen at mi my
  go_wp2_with fail
  clear c6 d6 c10 d10 c11 d11 en ei ek
  go_loopw [10, 11] (fun v10 v11 wr => ∃ i : Nat, i ≤ x1.items.length ∧ v10 = .bool true ∧ v11 = .int .i64 i ∧ Below W8.heap.size W8 wr) (fun _ v11 _ => x1.items.length - (intOf v11).toNat)
  case atStart => exact ⟨0, Nat.zero_le _, rfl, rfl, Below.refl _ _⟩
  case round =>
    obtain ⟨i, hi, rfl, rfl, hb⟩ := hrel
    have HB := hid hb
    have c10 := (K8.out.below hb).c10
    have d10 := (K9.out.below hb).c10
    clear hb
    by_cases hil : i < x1.items.length
    · obtain ⟨it, hit⟩ : ∃ it, x1.items[i]? = some it := ⟨_, List.getElem?_eq_getElem hil⟩
      have hit2 : x2.items[i]? = some it := by rw [← show x1.items = x2.items from LAW.out.items]; exact hit
      obtain ⟨g1, rfl, hl1, hs1⟩ := SI1.out.2 (by omega)
      obtain ⟨g2, rfl, hl2, hs2⟩ := SI2.out.2 (by have := LI.out; omega)
      obtain ⟨sv1, n1, t1⟩ := TI1.out.at hit
      obtain ⟨sv2, n2, t2⟩ := TI2.out.at hit2
      obtain ⟨B1, m1, rfl, -⟩ := n1.full
      obtain ⟨B2, m2, rfl, -⟩ := n2.full
      have P1 := fun j u hu => keep_below HB.out rfl (hs1 (i * 6 + j) u (t1 j u hu))
      have P2 := fun j u hu => keep_below HB.out rfl (hs2 (i * 6 + j) u (t2 j u hu))
      have p0 : wr.cell? ⟨g1, i * 6, none⟩ = some (.int .i64 it.kind) := P1 0 _ rfl
      have p1 : wr.cell? ⟨g1, i * 6 + 1, none⟩ = some (.slice B1 it.sec.length m1) := P1 1 _ rfl
      have p2 : wr.cell? ⟨g1, i * 6 + 2, none⟩ = some (.int .i64 it.what) := P1 2 _ rfl
      have p3 : wr.cell? ⟨g1, i * 6 + 3, none⟩ = some (.bool it.peek) := P1 3 _ rfl
      have p4 : wr.cell? ⟨g1, i * 6 + 4, none⟩ = some (.int .i64 it.frm) := P1 4 _ rfl
      have p5 : wr.cell? ⟨g1, i * 6 + 5, none⟩ = some (.int .i64 it.of) := P1 5 _ rfl
      have q0 : wr.cell? ⟨g2, i * 6, none⟩ = some (.int .i64 it.kind) := P2 0 _ rfl
      have q1 : wr.cell? ⟨g2, i * 6 + 1, none⟩ = some (.slice B2 it.sec.length m2) := P2 1 _ rfl
      have q2 : wr.cell? ⟨g2, i * 6 + 2, none⟩ = some (.int .i64 it.what) := P2 2 _ rfl
      have q3 : wr.cell? ⟨g2, i * 6 + 3, none⟩ = some (.bool it.peek) := P2 3 _ rfl
      have q4 : wr.cell? ⟨g2, i * 6 + 4, none⟩ = some (.int .i64 it.frm) := P2 4 _ rfl
      have q5 : wr.cell? ⟨g2, i * 6 + 5, none⟩ = some (.int .i64 it.of) := P2 5 _ rfl
      have NB1 := hid (n1.stays (Below.stays HB.out))
      have NB2 := hid (n2.stays (Below.stays HB.out))
      have i0 : (0 : Int) ≤ (i : Int) := by omega
      have i1 : (i : Int) < (x1.items.length : Int) := by omega
      have i2 : (i : Int) < (x2.items.length : Int) := by have := LI.out; omega
      clear P1 P2 hs1 hs2 t1 t2 n1 n2 hit hit2 hl1 hl2
      go_wp2_with fail
      refine wp_region_held_drew (S := fun w' => Below wr.heap.size wr w') (by kernel_rfl) (Below.refl _ _).drew (fun hHeld => ?_)
      refine wpAnyH_take (i := 0) (oi := _) (v := ?va0) rfl (by kernel_rfl) (by kernel_rfl) (by kernel_rfl) (fun _ _ _ h => h) (Or.inl ⟨by rfl, ?ya0⟩) (by assumption) ?ra0
      case ya0 => (intro w hSw; (try dsimp only at hSw); go_simp; try with_reducible rfl)
      try simp only [List.getElem_toArray, List.getElem_cons_zero, List.getElem_cons_succ, Act.put, List.setIfInBounds_toArray, List.set_cons_zero, List.set_cons_succ]
      refine wpAnyH_take (i := 1) (oi := _) (v := ?va1) rfl (by kernel_rfl) (by kernel_rfl) (by kernel_rfl) (fun _ _ _ h => h) (Or.inl ⟨by rfl, ?ya1⟩) (by assumption) ?ra1
      case ya1 => (intro w hSw; (try dsimp only at hSw); have z0_ := keep_below hSw rfl c10; go_simp; try with_reducible rfl)
      try simp only [List.getElem_toArray, List.getElem_cons_zero, List.getElem_cons_succ, Act.put, List.setIfInBounds_toArray, List.set_cons_zero, List.set_cons_succ]
      refine wpAnyH_take (i := 2) (oi := _) (v := ?va2) rfl (by kernel_rfl) (by kernel_rfl) (by kernel_rfl) (fun _ _ _ h => h) (Or.inl ⟨by rfl, ?ya2⟩) (by assumption) ?ra2
      case ya2 => (intro w hSw; (try dsimp only at hSw); go_simp; try with_reducible rfl)
      try simp only [List.getElem_toArray, List.getElem_cons_zero, List.getElem_cons_succ, Act.put, List.setIfInBounds_toArray, List.set_cons_zero, List.set_cons_succ]
      refine wpAnyH_take (i := 3) (oi := _) (v := ?va3) rfl (by kernel_rfl) (by kernel_rfl) (by kernel_rfl) (fun _ _ _ h => h) (Or.inl ⟨by rfl, ?ya3⟩) (by assumption) ?ra3
      case ya3 => (intro w hSw; (try dsimp only at hSw); go_simp; try with_reducible rfl)
      try simp only [List.getElem_toArray, List.getElem_cons_zero, List.getElem_cons_succ, Act.put, List.setIfInBounds_toArray, List.set_cons_zero, List.set_cons_succ]
      refine wpAnyH_take (i := 4) (oi := _) (v := ?va4) rfl (by kernel_rfl) (by kernel_rfl) (by kernel_rfl) (fun _ _ _ h => h) (Or.inl ⟨by rfl, ?ya4⟩) (by assumption) ?ra4
      case ya4 => (intro w hSw; (try dsimp only at hSw); have z0_ := keep_below hSw rfl p0; have z1_ := keep_below hSw rfl p1; have z2_ := keep_below hSw rfl p2; have z3_ := keep_below hSw rfl p3; have z4_ := keep_below hSw rfl p4; have z5_ := keep_below hSw rfl p5; go_simp; try with_reducible rfl)
      try simp only [List.getElem_toArray, List.getElem_cons_zero, List.getElem_cons_succ, Act.put, List.setIfInBounds_toArray, List.set_cons_zero, List.set_cons_succ]
      refine wpAnyH_take (i := 5) (oi := _) (v := ?va5) rfl (by kernel_rfl) (by kernel_rfl) (by kernel_rfl) (fun _ _ _ h => h) (Or.inl ⟨by rfl, ?ya5⟩) (by assumption) ?ra5
      case ya5 => (intro w hSw; (try dsimp only at hSw); go_simp; try with_reducible rfl)
      try simp only [List.getElem_toArray, List.getElem_cons_zero, List.getElem_cons_succ, Act.put, List.setIfInBounds_toArray, List.set_cons_zero, List.set_cons_succ]
      refine wpAnyH_take (i := 6) (oi := _) (v := ?va6) rfl (by kernel_rfl) (by kernel_rfl) (by kernel_rfl) (fun _ _ _ h => h) (Or.inl ⟨by rfl, ?ya6⟩) (by assumption) ?ra6
      case ya6 => (intro w hSw; (try dsimp only at hSw); have z0_ := keep_below hSw rfl d10; go_simp; try with_reducible rfl)
      try simp only [List.getElem_toArray, List.getElem_cons_zero, List.getElem_cons_succ, Act.put, List.setIfInBounds_toArray, List.set_cons_zero, List.set_cons_succ]
      refine wpAnyH_take (i := 7) (oi := _) (v := ?va7) rfl (by kernel_rfl) (by kernel_rfl) (by kernel_rfl) (fun _ _ _ h => h) (Or.inl ⟨by rfl, ?ya7⟩) (by assumption) ?ra7
      case ya7 => (intro w hSw; (try dsimp only at hSw); go_simp; try with_reducible rfl)
      try simp only [List.getElem_toArray, List.getElem_cons_zero, List.getElem_cons_succ, Act.put, List.setIfInBounds_toArray, List.set_cons_zero, List.set_cons_succ]
      refine wpAnyH_take (i := 8) (oi := _) (v := ?va8) rfl (by kernel_rfl) (by kernel_rfl) (by kernel_rfl) (fun _ _ _ h => h) (Or.inl ⟨by rfl, ?ya8⟩) (by assumption) ?ra8
      case ya8 => (intro w hSw; (try dsimp only at hSw); go_simp; try with_reducible rfl)
      try simp only [List.getElem_toArray, List.getElem_cons_zero, List.getElem_cons_succ, Act.put, List.setIfInBounds_toArray, List.set_cons_zero, List.set_cons_succ]
      refine wpAnyH_take (i := 9) (oi := _) (v := ?va9) rfl (by kernel_rfl) (by kernel_rfl) (by kernel_rfl) (fun _ _ _ h => h) (Or.inl ⟨by rfl, ?ya9⟩) (by assumption) ?ra9
      case ya9 => (intro w hSw; (try dsimp only at hSw); have z0_ := keep_below hSw rfl q0; have z1_ := keep_below hSw rfl q1; have z2_ := keep_below hSw rfl q2; have z3_ := keep_below hSw rfl q3; have z4_ := keep_below hSw rfl q4; have z5_ := keep_below hSw rfl q5; go_simp; try with_reducible rfl)
      try simp only [List.getElem_toArray, List.getElem_cons_zero, List.getElem_cons_succ, Act.put, List.setIfInBounds_toArray, List.set_cons_zero, List.set_cons_succ]
      refine wpAnyH_ready (rs := [10]) (by kernel_rfl) (by simp) ?_
      refine AllReadyH.cons (o := _) rfl (fun K hK => ?_) AllReadyH.nil
      go_simp
      refine (sameItem_any it _ _ _ (NB1.out.stays (Below.stays (Below.refl _ _).drew)) (NB2.out.stays (Below.stays (Below.refl _ _).drew))).mono ?_
      rintro e w12 ⟨rfl, b12⟩
      have B12 : Hid (Below wr.heap.size wr w12) := hid ((Below.refl _ _).drew.trans b12)
      clear b12
      go_wp2_with fail
      refine hK.out _ _ ?hsz (fun hHeld2 => ?_)
      case hsz => exact B12.out
      clear hK K hHeld
      have hHeld := hHeld2
      clear hHeld2
      try simp only [List.getElem_toArray, List.getElem_cons_zero, List.getElem_cons_succ, Act.put, List.setIfInBounds_toArray, List.set_cons_zero, List.set_cons_succ]
      refine wpAnyH_take (i := 11) (oi := _) (v := ?vb11) rfl (by kernel_rfl) (by kernel_rfl) (by kernel_rfl) (fun _ _ _ h => h) (Or.inl ⟨by rfl, ?yb11⟩) (by assumption) ?rb11
      case yb11 => (intro w hSw; (try dsimp only at hSw); go_simp; try with_reducible rfl)
      try simp only [List.getElem_toArray, List.getElem_cons_zero, List.getElem_cons_succ, Act.put, List.setIfInBounds_toArray, List.set_cons_zero, List.set_cons_succ]
      refine wpAnyH_done (by kernel_rfl) ?_ _
      go_wp2_with fail
      go_roundw
      case rel => exact ⟨i + 1, by omega, rfl, by go_num, HB.out.trans (B12.out.mono HB.out.size)⟩
      case measure => simp [intOf]; omega
    · obtain rfl : i = x1.items.length := by omega
      have c11 := (K8.out.below HB.out).c11
      have d11 := (K9.out.below HB.out).c11
      go_wp2_with fail
      clear c10 d10 c11 d11
      go_loopw [10, 12] (fun v10 v12 wx => ∃ i q : Nat, i ≤ x1.keys.length ∧ v10 = .bool true ∧ v12 = .int .i64 i ∧ wx = wr.drewN q) (fun _ v12 _ => x1.keys.length - (intOf v12).toNat)
      case atStart => exact ⟨0, 0, Nat.zero_le _, rfl, rfl, rfl⟩
      case round =>
        obtain ⟨i, q, hi, rfl, rfl, rfl⟩ := hrel
        have c11 := (K8.out.below HB.out).c11
        have d11 := (K9.out.below HB.out).c11
        by_cases hil : i < x1.keys.length
        · obtain ⟨k1, hk1⟩ : ∃ k, x1.keys[i]? = some k := ⟨_, List.getElem?_eq_getElem hil⟩
          obtain ⟨k2, hk2⟩ : ∃ k, x2.keys[i]? = some k := ⟨_, List.getElem?_eq_getElem (by have := LK.out; omega)⟩
          obtain ⟨r1, r2, r3, -, -⟩ := LAW.out.keys.at i k1 k2 hk1 hk2
          obtain ⟨g1, rfl, hl1, hs1⟩ := SY1.out.2 (by omega)
          obtain ⟨g2, rfl, hl2, hs2⟩ := SY2.out.2 (by have := LK.out; omega)
          obtain ⟨sv1, n1, t1⟩ := TY1.out.at hk1
          obtain ⟨sv2, n2, t2⟩ := TY2.out.at hk2
          obtain ⟨B1, m1, rfl, -⟩ := n1.full
          obtain ⟨B2, m2, rfl, -⟩ := n2.full
          have P1 := fun j u hu => keep_below HB.out rfl (hs1 (i * 5 + j) u (t1 j u hu))
          have P2 := fun j u hu => keep_below HB.out rfl (hs2 (i * 5 + j) u (t2 j u hu))
          have p0 : wr.cell? ⟨g1, i * 5, none⟩ = some (.int .i64 k1.kind) := P1 0 _ rfl
          have p1 : wr.cell? ⟨g1, i * 5 + 1, none⟩ = some (.bool k1.not) := P1 1 _ rfl
          have p3 : wr.cell? ⟨g1, i * 5 + 3, none⟩ = some (.int .i64 k1.n) := P1 3 _ rfl
          have q0 : wr.cell? ⟨g2, i * 5, none⟩ = some (.int .i64 k1.kind) := by rw [r1]; exact P2 0 _ rfl
          have q1 : wr.cell? ⟨g2, i * 5 + 1, none⟩ = some (.bool k1.not) := by rw [r2]; exact P2 1 _ rfl
          have q3 : wr.cell? ⟨g2, i * 5 + 3, none⟩ = some (.int .i64 k1.n) := by rw [r3]; exact P2 3 _ rfl
          have i0 : (0 : Int) ≤ (i : Int) := by omega
          have i1 : (i : Int) < (x1.keys.length : Int) := by omega
          have i2 : (i : Int) < (x2.keys.length : Int) := by have := LK.out; omega
          have f0 : (k1.kind == k1.kind) = true := by simp
          have f1 : (k1.not == k1.not) = true := by simp
          have f3 : (k1.n == k1.n) = true := by simp
          clear P1 P2 hs1 hs2 t1 t2 n1 n2 hk1 hk2 hl1 hl2 r1 r2 r3
          go_wp2_with fail
          go_quiet (fail)
          go_step
          go_step
          go_wp2_with fail
          go_roundw
          case rel => exact ⟨i + 1, _, by omega, rfl, by go_num, rfl⟩
          case measure => simp [intOf]; omega
        · obtain rfl : i = x1.keys.length := by omega
          go_wp2_with fail
          clear c11 d11
          have hgw := fun (l : Bt) W (h : l.length ≤ 9223372036854775806) => rgreat_any l W h
          go_loopw [13] (fun v13 wx => ∃ i : Nat, i ≤ rest.length + 1 ∧ v13 = .int .i64 i ∧ (∀ j, j < i → great ((rest.drop j).take 6) ≠ [65, 80, 80, 69, 78, 68]) ∧ Below W8.heap.size W8 wx) (fun v13 _ => rest.length + 1 - (intOf v13).toNat)
          case atStart => exact ⟨0, Nat.zero_le _, rfl, fun j h => absurd h (Nat.not_lt_zero _), ⟨HB.out.os, HB.out.tape, HB.out.output, HB.out.size, HB.out.block⟩⟩
          case round =>
            obtain ⟨i, hi, rfl, hno, hbx⟩ := hrel
            have HX := hid hbx
            have HN := hid hno
            clear hbx hno
            obtain ⟨j6, hj6⟩ : ∃ j, j = i + 6 := ⟨_, rfl⟩
            have hw6 : IntKind.i64.wrap ((i : Int) + 6) = (j6 : Int) := by rw [IntKind.wrap_i64]; omega
            have HJ := hid hj6
            by_cases hil : j6 ≤ rest.length
            · have hx6 : (str rest).extract i j6 = str ((rest.take j6).drop i) := str_cut _ _ _
              have hT : (rest.take j6).drop i = (rest.drop i).take 6 := by rw [List.drop_take, hj6]; congr 1; omega
              obtain ⟨G, hG2⟩ : ∃ G, G = great ((rest.drop i).take 6) := ⟨_, rfl⟩
              have hgc := fun W => hgw ((rest.take j6).drop i) W (by simp; omega)
              rw [show ((rest.take j6).drop i).map (moveB 97 65) = G by rw [hT, hG2]; rfl] at hgc
              have i0 : i ≤ j6 := by omega
              have i1 : (j6 : Int) ≤ (rest.length : Int) := by omega
              have HG2 := hid hG2
              have HI := hid hi
              clear hT hG2 hgw hj6
              cases hga : (G == [65, 80, 80, 69, 78, 68]) with
              | true =>
                go_wp2_with (go_at_call 12; refine (hgc _).mono ?_; rintro e w20 ⟨rfl, c20⟩; have B20 := hid c20; clear c20)
                go_ret
                exact ⟨rfl, b8.out.trans ((HX.out.mono b8.out.size).trans (B20.out.mono (Nat.le_trans b8.out.size HX.out.size)))⟩
              | false =>
                have hne : G ≠ [65, 80, 80, 69, 78, 68] := by simpa using hga
                have HNE := hid hne
                clear hne
                go_wp2_with (go_at_call 12; refine (hgc _).mono ?_; rintro e w20 ⟨rfl, c20⟩; have B20 := hid c20; clear c20)
                go_roundw
                case rel =>
                  refine ⟨i + 1, by have := HJ.out; omega, by go_num, fun j hj => ?_, HX.out.trans (B20.out.mono HX.out.size)⟩
                  rcases Nat.lt_or_ge j i with h | h
                  · exact HN.out j h
                  · obtain rfl : j = i := by omega
                    rw [← HG2.out]
                    exact HNE.out
                case measure => simp [intOf]; have := HJ.out; omega
            · have hwin : ¬ window rest := by
                rintro ⟨j, h1, h2⟩
                exact HN.out j (by omega) h2
              obtain ⟨hcr, he⟩ := LAW.out.rest hwin
              dsimp only at hcr he
              subst he
              have k8 := K8.out.below HX.out
              have k9 := K9.out.below HX.out
              have c1 := k8.c1
              have c2 := k8.c2
              have c7 := k8.c7
              have c8 := k8.c8
              have c9 := k8.c9
              have d1 := k9.c1
              have d2 := k9.c2
              have d7 := k9.c7
              have d8 := k9.c8
              have d9 := k9.c9
              have r1 : (x1.word == x2.word) = true := by rw [hcr.word]; simp
              have r2 : (x1.uid == x2.uid) = true := by rw [hcr.uid]; simp
              have r7 : ((x1.flags : Int) == (x2.flags : Int)) = true := by rw [hcr.flags]; simp
              have r8 : (x1.mode == x2.mode) = true := by rw [hcr.mode]; simp
              have r9 : (x1.silent == x2.silent) = true := by rw [hcr.silent]; simp
              have r0 : (e1 == e1) = true := by simp
              have hil2 : ¬ (j6 : Int) ≤ (rest.length : Int) := by omega
              clear hcr k8 k9 hwin hgw hj6
              go_wp2_with fail
              go_ret
              exact ⟨rfl, b8.out.trans (HX.out.mono b8.out.size)⟩
end Go.Proofs.YtfdmdmahddjjmaaGreatDoor
