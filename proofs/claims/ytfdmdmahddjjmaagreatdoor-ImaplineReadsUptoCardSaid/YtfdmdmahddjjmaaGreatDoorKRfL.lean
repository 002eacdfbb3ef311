/-
  The reference: a key's other words.
-/
import Derived.Test.YtfdmdmahddjjmaaGreatDoorKRfK
import Derived.Test.YtfdmdmahddjjmaaGreatDoorPkRf
import Derived.Test.YtfdmdmahddjjmaaGreatDoorPkKy
set_option linter.unusedVariables false
set_option linter.unusedSimpArgs false
set_option maxRecDepth 100000
namespace Go.Proofs.YtfdmdmahddjjmaaGreatDoor
open Go.RowKit Own Im
attribute [local go_sem] str_toList str_size
theorem KyB.set0 {w:World} {c:Nat} {a0 a1 a2 a3 a4:Value} (h:KyB w c a0 a1 a2 a3 a4) (y:Value):KyB (w.setCell ⟨c,0,none⟩ y) c y a1 a2 a3 a4:=block_set h _
theorem KyB.set1 {w:World} {c:Nat} {a0 a1 a2 a3 a4:Value} (h:KyB w c a0 a1 a2 a3 a4) (y:Value):KyB (w.setCell ⟨c,1,none⟩ y) c a0 y a2 a3 a4:=block_set h _
theorem KyB.set2 {w:World} {c:Nat} {a0 a1 a2 a3 a4:Value} (h:KyB w c a0 a1 a2 a3 a4) (y:Value):KyB (w.setCell ⟨c,2,none⟩ y) c a0 a1 y a3 a4:=block_set h _
theorem KyB.set3 {w:World} {c:Nat} {a0 a1 a2 a3 a4:Value} (h:KyB w c a0 a1 a2 a3 a4) (y:Value):KyB (w.setCell ⟨c,3,none⟩ y) c a0 a1 a2 y a4:=block_set h _
theorem KyB.set4 {w:World} {c:Nat} {a0 a1 a2 a3 a4:Value} (h:KyB w c a0 a1 a2 a3 a4) (y:Value):KyB (w.setCell ⟨c,4,none⟩ y) c a0 a1 a2 a3 y:=block_set h _
set_option maxHeartbeats 16000000 in
theorem rkey_all (dp:Int) (b:Nat) (s:Bt) (bad:Bool) (w:World) (h:RtT w b s bad) (hh:headB s = false) (wd t1 nm:Bt) (un:Bool) (hw:Im.word s = (wd,t1)) (htk:takes [85,78] wd = (un,nm)) (hq:flagAt nm = none) (l0:(wd == [65,76,76]) = true) (l1:(wd == [70,82,79,77]) = false) (l2:(wd == [83,85,66,74,69,67,84]) = false) (l3:(wd == [84,69,88,84]) = false) (l4:(wd == [76,65,82,71,69,82]) = false) (l5:(wd == [83,77,65,76,76,69,82]) = false) (l6:(wd == [85,73,68]) = false) (l7:(wd == [78,79,84]) = false) (R:Option (Ky × Bt)) (hR:R = some ({ kind:=1 },t1)) :
  Calls Tryz.prog 81 #[.pointer (some ⟨b,0,none⟩),.int .i64 dp] w fun e w'=>Goes b w s bad (vKey w.heap.size) R e w':=by
 have HQ:=hid hq
 have HT:=hid htk
 have hblt:=h.lt
 have hdb:w.heap.size ≠ b:=by omega
 have a1:Below w.heap.size w (w.alloc (.cells #[.int .i64 0,.bool false,.string ⟨#[]⟩,.int .i64 0,.slice none 0 0] 39)):=(Below.refl _ _).alloc (Nat.le_refl _) _
 have R1:=hid (h.below a1)
 have O1:=hid (Only.of a1 (Nat.le_of_lt hblt))
 have Z1:Hid (KyB (w.alloc (.cells #[.int .i64 0,.bool false,.string ⟨#[]⟩,.int .i64 0,.slice none 0 0] 39)) w.heap.size (.int .i64 0) (.bool false) (.string ⟨#[]⟩) (.int .i64 0) (.slice none 0 0)):=hid (heap_alloc_new w _)
 have II:=hid ((Inv.start bad R).to fun _=>hR)
 have hwd:=fun W hW=>rword_any b s bad W hW
 have hle:=word_le s
 rw [hw] at hwd hle
 dsimp only at hwd hle
 clear hR h a1 hw
 go_enter Tryz.func81,Tryz.ntmps81
 go_upto_region 1 with fail
 go_cut [30] from 9 to 29 (fun v30 wx=>v30 = .bool false∧wx = (w.alloc (.cells #[.int .i64 0,.bool false,.string ⟨#[]⟩,.int .i64 0,.slice none 0 0] 39)))
 case first =>
  have hc0:=R1.out.c0
  rcases s with _ | ⟨c,s'⟩
  · go_wp2_with fail
    go_meet
    exact ⟨rfl,rfl⟩
  · have hix:∀ h:0 < (str (c :: s')).size,(str (c :: s'))[0] = c:=fun h=>rfl
    have hz:=str_size (c :: s')
    have hdg:=fun W=>rdigit_any c W
    have h42:((c.toNat:Int) == 42) = decide (c = 42):=byte_eq2 42 c
    have hh2:(isDg c || decide (c = 42)) = false:=hh
    obtain ⟨D,hD⟩:∃ D,isDg c = D:=⟨_,rfl⟩
    obtain ⟨E,hE⟩:∃ E,decide (c = 42) = E:=⟨_,rfl⟩
    rw [hD] at hdg hh2
    rw [hE] at h42 hh2
    clear hD hE hh
    have DG:=hid hdg
    clear hdg
    cases D <;> cases E
    · go_wp2_with (go_at_call 38;refine (DG.out _).mono ?_;rintro e w9 ⟨rfl,rfl⟩)
      go_meet
      exact ⟨rfl,rfl⟩
    all_goals cases hh2
 case rest =>
  obtain ⟨rfl,rfl⟩:=hcut
  clear htk hq
  go_wp2_with (go_at_call 32;refine (hwd _ R1.out).mono ?_;rintro e w2 ⟨rfl,r2,o2⟩;have a2:=(Below.refl w2.heap.size w2).alloc (Nat.le_refl _) (.cells #[.string ⟨#[83,69,69,78]⟩,.string ⟨#[65,78,83,87,69,82,69,68]⟩,.string ⟨#[70,76,65,71,71,69,68]⟩,.string ⟨#[68,69,76,69,84,69,68]⟩,.string ⟨#[68,82,65,70,84]⟩] 9);have hnl:=names_lit w2;have hgd:w2.heap.size ≠ w.heap.size:=(by have:=o2.size;simp at this;omega);have R2:=hid (r2.below a2);have O2:=hid (O1.out.trans (o2.trans (Only.of a2 (Nat.le_of_lt r2.lt))));have Z2:=hid ((Z1.out.only o2 hdb).below a2);clear r2 o2 a2)
  obtain ⟨W,hW⟩:∃ W,W = w2.alloc (.cells #[.string ⟨#[83,69,69,78]⟩,.string ⟨#[65,78,83,87,69,82,69,68]⟩,.string ⟨#[70,76,65,71,71,69,68]⟩,.string ⟨#[68,69,76,69,84,69,68]⟩,.string ⟨#[68,82,65,70,84]⟩] 9):=⟨_,rfl⟩
  rw [← hW] at hnl R2 O2 Z2
  rw [← hW]
  clear hW
  have HN:=hid hnl
  clear hnl
  go_loop [7] (fun v7=>∃ j:Nat,j ≤ 5∧v7 = .int .i64 j) (fun v7=>5 - (intOf v7).toNat)
  case atStart=>exact ⟨0,Nat.zero_le _,rfl⟩
  case round =>
   obtain ⟨j,hj,rfl⟩:=hrel
   by_cases hj5:j < 5
   · obtain ⟨y,hy⟩:∃ y,namesG[j]? = some y:=⟨_,List.getElem?_eq_getElem (by simp [namesG];omega)⟩
     have hun:=namesG_un y (List.mem_of_getElem? hy)
     have hnw:=names_word HT.out hun
     have x1:=HN.out j y hy
     have hcat:(⟨#[85,78]⟩:ByteArray) ++ str y = str (85 :: 78 :: y):=by rw [show (⟨#[85,78]⟩:ByteArray) = str [85,78] from rfl,str_append];rfl
     have hyl : y.length ≤ 100 := by have h:∀ z ∈ namesG,z.length ≤ 100:=by decide
                                     exact h y (List.mem_of_getElem? hy)
     have i0:(0:Int) ≤ (j:Int):=by omega
     have i1:(j:Int) < 5:=by omega
     have hne:nm ≠ y:=fun e=>by
      have h2:=(flag_names nm j).2 (by rw [e];exact hy)
      rw [HQ.out] at h2
      cases h2
     have e1:(wd == y) = false:=beq_eq_false_iff_ne.2 fun h=>hne (hnw.1.1 h).2
     have e2:(wd == 85 :: 78 :: y) = false:=beq_eq_false_iff_ne.2 fun h=>hne (hnw.2.1 h).2
     clear hne hnw hy hun
     go_wp2_with fail
     go_round
     case rel=>exact ⟨j + 1,by omega,by go_num⟩
     case measure=>simp [intOf];omega
   · obtain rfl:j = 5:=by omega
     clear hj hj5
     have a3:=(Below.refl W.heap.size W).alloc (Nat.le_refl _) (.cells #[.int .i64 1,.bool false,.string ⟨#[]⟩,.int .i64 0,.slice none 0 0] 39)
     have hbc:b < W.heap.size:=R2.out.lt
     have hcb:W.heap.size ≠ b:=by omega
     have hdc:w.heap.size ≠ W.heap.size:=by have:=Z2.out.lt;omega
     have hwc:w.heap.size ≤ W.heap.size:=by have:=Z2.out.lt;omega
     have z3:=Z2.out.below a3
     have y0:=z3.c0
     have yf0:=z3.free 0
     have y1:=z3.c1
     have yf1:=z3.free 1
     have y2:=z3.c2
     have yf2:=z3.free 2
     have y3:=z3.c3
     have yf3:=z3.free 3
     have y4:=z3.c4
     have yf4:=z3.free 4
     have Z3:=hid z3
     have r3:=R2.out.below a3
     have b1:=r3.c1
     have bf:=r3.free 1
     have R3:=hid r3
     have O3:=hid (O2.out.trans (Only.of a3 (Nat.le_of_lt hbc)))
     have K3:Hid (KyB (W.alloc (.cells #[.int .i64 1,.bool false,.string ⟨#[]⟩,.int .i64 0,.slice none 0 0] 39)) W.heap.size (.int .i64 1) (.bool false) (.string ⟨#[]⟩) (.int .i64 0) (.slice none 0 0)):=hid (heap_alloc_new W _)
     clear z3 r3 a3
     go_wp2_with fail
     refine bodyPost_ret (v:=.agg #[.int .i64 1,.bool false,.string (str []),.int .i64 0,.slice none 0 0]) (by first | (simp [results,Tryz.results81,go_sem,y0,y1,y2,y3,y4];done) | (simp [results,Tryz.results81,go_sem,y0,y1,y2,y3,y4];rfl)) rfl ?_
     exact ⟨_,{ kind:=1 },t1,bad,rfl,⟨_,rfl,Sq.RBuf.nil (by have:=O3.out.size;simpa [World.setCell] using this)⟩,(((((R3.out.far hblt _).far hblt _).far hblt _).far hblt _).far hblt _),hle,(((((O3.out.setNew hblt (Nat.le_refl _) _).setNew hblt (Nat.le_refl _) _).setNew hblt (Nat.le_refl _) _).setNew hblt (Nat.le_refl _) _).setNew hblt (Nat.le_refl _) _),II.out.out⟩
set_option maxHeartbeats 16000000 in
theorem rkey_from (dp:Int) (b:Nat) (s:Bt) (bad:Bool) (w:World) (h:RtT w b s bad) (hh:headB s = false) (wd t1 nm:Bt) (un:Bool) (hw:Im.word s = (wd,t1)) (htk:takes [85,78] wd = (un,nm)) (hq:flagAt nm = none) (l0:(wd == [65,76,76]) = false) (l1:(wd == [70,82,79,77]) = true) (l2:(wd == [83,85,66,74,69,67,84]) = false) (l3:(wd == [84,69,88,84]) = false) (l4:(wd == [76,65,82,71,69,82]) = false) (l5:(wd == [83,77,65,76,76,69,82]) = false) (l6:(wd == [85,73,68]) = false) (l7:(wd == [78,79,84]) = false) (R:Option (Ky × Bt)) (hR:R = (signR 32 t1).bind fun q=>(Im.text atomB q.2).map fun r=>({ kind:=3,text:=r.1 },r.2)) :
  Calls Tryz.prog 81 #[.pointer (some ⟨b,0,none⟩),.int .i64 dp] w fun e w'=>Goes b w s bad (vKey w.heap.size) R e w':=by
 have HQ:=hid hq
 have HT:=hid htk
 have hblt:=h.lt
 have hdb:w.heap.size ≠ b:=by omega
 have a1:Below w.heap.size w (w.alloc (.cells #[.int .i64 0,.bool false,.string ⟨#[]⟩,.int .i64 0,.slice none 0 0] 39)):=(Below.refl _ _).alloc (Nat.le_refl _) _
 have R1:=hid (h.below a1)
 have O1:=hid (Only.of a1 (Nat.le_of_lt hblt))
 have Z1:Hid (KyB (w.alloc (.cells #[.int .i64 0,.bool false,.string ⟨#[]⟩,.int .i64 0,.slice none 0 0] 39)) w.heap.size (.int .i64 0) (.bool false) (.string ⟨#[]⟩) (.int .i64 0) (.slice none 0 0)):=hid (heap_alloc_new w _)
 have II:=hid ((Inv.start bad R).to fun _=>hR)
 have hwd:=fun W hW=>rword_any b s bad W hW
 have hle:=word_le s
 rw [hw] at hwd hle
 dsimp only at hwd hle
 clear hR h a1 hw
 go_enter Tryz.func81,Tryz.ntmps81
 go_upto_region 1 with fail
 go_cut [30] from 9 to 29 (fun v30 wx=>v30 = .bool false∧wx = (w.alloc (.cells #[.int .i64 0,.bool false,.string ⟨#[]⟩,.int .i64 0,.slice none 0 0] 39)))
 case first =>
  have hc0:=R1.out.c0
  rcases s with _ | ⟨c,s'⟩
  · go_wp2_with fail
    go_meet
    exact ⟨rfl,rfl⟩
  · have hix:∀ h:0 < (str (c :: s')).size,(str (c :: s'))[0] = c:=fun h=>rfl
    have hz:=str_size (c :: s')
    have hdg:=fun W=>rdigit_any c W
    have h42:((c.toNat:Int) == 42) = decide (c = 42):=byte_eq2 42 c
    have hh2:(isDg c || decide (c = 42)) = false:=hh
    obtain ⟨D,hD⟩:∃ D,isDg c = D:=⟨_,rfl⟩
    obtain ⟨E,hE⟩:∃ E,decide (c = 42) = E:=⟨_,rfl⟩
    rw [hD] at hdg hh2
    rw [hE] at h42 hh2
    clear hD hE hh
    have DG:=hid hdg
    clear hdg
    cases D <;> cases E
    · go_wp2_with (go_at_call 38;refine (DG.out _).mono ?_;rintro e w9 ⟨rfl,rfl⟩)
      go_meet
      exact ⟨rfl,rfl⟩
    all_goals cases hh2
 case rest =>
  obtain ⟨rfl,rfl⟩:=hcut
  clear htk hq
  go_wp2_with (go_at_call 32;refine (hwd _ R1.out).mono ?_;rintro e w2 ⟨rfl,r2,o2⟩;have a2:=(Below.refl w2.heap.size w2).alloc (Nat.le_refl _) (.cells #[.string ⟨#[83,69,69,78]⟩,.string ⟨#[65,78,83,87,69,82,69,68]⟩,.string ⟨#[70,76,65,71,71,69,68]⟩,.string ⟨#[68,69,76,69,84,69,68]⟩,.string ⟨#[68,82,65,70,84]⟩] 9);have hnl:=names_lit w2;have hgd:w2.heap.size ≠ w.heap.size:=(by have:=o2.size;simp at this;omega);have R2:=hid (r2.below a2);have O2:=hid (O1.out.trans (o2.trans (Only.of a2 (Nat.le_of_lt r2.lt))));have Z2:=hid ((Z1.out.only o2 hdb).below a2);clear r2 o2 a2)
  obtain ⟨W,hW⟩:∃ W,W = w2.alloc (.cells #[.string ⟨#[83,69,69,78]⟩,.string ⟨#[65,78,83,87,69,82,69,68]⟩,.string ⟨#[70,76,65,71,71,69,68]⟩,.string ⟨#[68,69,76,69,84,69,68]⟩,.string ⟨#[68,82,65,70,84]⟩] 9):=⟨_,rfl⟩
  rw [← hW] at hnl R2 O2 Z2
  rw [← hW]
  clear hW
  have HN:=hid hnl
  clear hnl
  go_loop [7] (fun v7=>∃ j:Nat,j ≤ 5∧v7 = .int .i64 j) (fun v7=>5 - (intOf v7).toNat)
  case atStart=>exact ⟨0,Nat.zero_le _,rfl⟩
  case round =>
   obtain ⟨j,hj,rfl⟩:=hrel
   by_cases hj5:j < 5
   · obtain ⟨y,hy⟩:∃ y,namesG[j]? = some y:=⟨_,List.getElem?_eq_getElem (by simp [namesG];omega)⟩
     have hun:=namesG_un y (List.mem_of_getElem? hy)
     have hnw:=names_word HT.out hun
     have x1:=HN.out j y hy
     have hcat:(⟨#[85,78]⟩:ByteArray) ++ str y = str (85 :: 78 :: y):=by rw [show (⟨#[85,78]⟩:ByteArray) = str [85,78] from rfl,str_append];rfl
     have hyl : y.length ≤ 100 := by have h:∀ z ∈ namesG,z.length ≤ 100:=by decide
                                     exact h y (List.mem_of_getElem? hy)
     have i0:(0:Int) ≤ (j:Int):=by omega
     have i1:(j:Int) < 5:=by omega
     have hne:nm ≠ y:=fun e=>by
      have h2:=(flag_names nm j).2 (by rw [e];exact hy)
      rw [HQ.out] at h2
      cases h2
     have e1:(wd == y) = false:=beq_eq_false_iff_ne.2 fun h=>hne (hnw.1.1 h).2
     have e2:(wd == 85 :: 78 :: y) = false:=beq_eq_false_iff_ne.2 fun h=>hne (hnw.2.1 h).2
     clear hne hnw hy hun
     go_wp2_with fail
     go_round
     case rel=>exact ⟨j + 1,by omega,by go_num⟩
     case measure=>simp [intOf];omega
   · obtain rfl:j = 5:=by omega
     clear hj hj5
     have a3:=(Below.refl W.heap.size W).alloc (Nat.le_refl _) (.cells #[.int .i64 3,.bool false,.string ⟨#[]⟩,.int .i64 0,.slice none 0 0] 39)
     have hbc:b < W.heap.size:=R2.out.lt
     have hcb:W.heap.size ≠ b:=by omega
     have hdc:w.heap.size ≠ W.heap.size:=by have:=Z2.out.lt;omega
     have hwc:w.heap.size ≤ W.heap.size:=by have:=Z2.out.lt;omega
     have z3:=Z2.out.below a3
     have y0:=z3.c0
     have yf0:=z3.free 0
     have y1:=z3.c1
     have yf1:=z3.free 1
     have y2:=z3.c2
     have yf2:=z3.free 2
     have y3:=z3.c3
     have yf3:=z3.free 3
     have y4:=z3.c4
     have yf4:=z3.free 4
     have Z3:=hid z3
     have r3:=R2.out.below a3
     have b1:=r3.c1
     have bf:=r3.free 1
     have R3:=hid r3
     have O3:=hid (O2.out.trans (Only.of a3 (Nat.le_of_lt hbc)))
     have K3:Hid (KyB (W.alloc (.cells #[.int .i64 3,.bool false,.string ⟨#[]⟩,.int .i64 0,.slice none 0 0] 39)) W.heap.size (.int .i64 3) (.bool false) (.string ⟨#[]⟩) (.int .i64 0) (.slice none 0 0)):=hid (heap_alloc_new W _)
     clear z3 r3 a3
     have hrun:RunC b 1 atomB:=fun s bad W h=>rrun1_any b s bad W h
     go_wp2_with (first
      | (go_at_call 34;refine (rblank_any b t1 bad _ R3.out).mono ?_;rintro e w4 ⟨v4,a4,s4,d4,rfl,rfl,r4,l4,o4,t4⟩;have I4:=hid (II.out.step t4);have k4:=K3.out.only o4 hcb;have x0:=k4.c0;have xf0:=k4.free 0;have x1:=k4.c1;have xf1:=k4.free 1;have x2:=k4.c2;have xf2:=k4.free 2;have x3:=k4.c3;have xf3:=k4.free 3;have x4:=k4.c4;have xf4:=k4.free 4;have z4:=Z3.out.only o4 hdb;have y0:=z4.c0;have yf0:=z4.free 0;have y1:=z4.c1;have yf1:=z4.free 1;have y2:=z4.c2;have yf2:=z4.free 2;have y3:=z4.c3;have yf3:=z4.free 3;have y4:=z4.c4;have yf4:=z4.free 4;have Z4:=hid z4;have K4:=hid k4;have b4:=r4.c1;have bg:=r4.free 1;have R4:=hid r4;have L4:=hid l4;have O4:=hid (O3.out.trans o4);clear r4 l4 o4 t4 k4 z4)
      | (go_at_call 73;refine (rany_any 1 atomB b hrun s4 d4 _ R4.out).mono ?_;rintro e w5 ⟨v5,x5,s5,d5,rfl,rfl,r5,l5,o5,t5⟩;have I5:=hid (Inv.map (show Inv bad R d4 ((Im.text atomB s4).map fun r=>(({ kind:=3,text:=r.1 }:Ky),r.2)) from I4.out) t5);have k5:=K4.out.only o5 hcb;have x0:=k5.c0;have xf0:=k5.free 0;have x1:=k5.c1;have xf1:=k5.free 1;have x2:=k5.c2;have xf2:=k5.free 2;have x3:=k5.c3;have xf3:=k5.free 3;have x4:=k5.c4;have xf4:=k5.free 4;have z5:=(Z4.out.only o5 hdb).far hdc (j:=2) (.string (str x5));have y0:=z5.c0;have yf0:=z5.free 0;have y1:=z5.c1;have yf1:=z5.free 1;have y2:=z5.c2;have yf2:=z5.free 2;have y3:=z5.c3;have yf3:=z5.free 3;have y4:=z5.c4;have yf4:=z5.free 4;have R5:=hid (r5.far hbc (j:=2) (.string (str x5)));have L5:=hid l5;have O5:=hid ((O4.out.trans o5).setNew hblt hwc (j:=2) (.string (str x5)));have kk:=k5.set2 (.string (str x5));have u0:=kk.c0;have uf0:=kk.free 0;have u1:=kk.c1;have uf1:=kk.free 1;have u2:=kk.c2;have uf2:=kk.free 2;have u3:=kk.c3;have uf3:=kk.free 3;have u4:=kk.c4;have uf4:=kk.free 4;clear r5 l5 o5 t5 k5 kk z5))
     refine bodyPost_ret (v:=.agg #[.int .i64 3,.bool false,.string (str x5),.int .i64 0,.slice none 0 0]) (by first | (simp [results,Tryz.results81,go_sem,y0,y1,y2,y3,y4];done) | (simp [results,Tryz.results81,go_sem,y0,y1,y2,y3,y4];rfl)) rfl ?_
     exact ⟨_,{ kind:=3,text:=x5 },s5,d5,rfl,⟨_,rfl,Sq.RBuf.nil (by have:=O5.out.size;simpa [World.setCell] using this)⟩,(((((R5.out.far hblt _).far hblt _).far hblt _).far hblt _).far hblt _),(by have:=L5.out;have:=L4.out;omega),(((((O5.out.setNew hblt (Nat.le_refl _) _).setNew hblt (Nat.le_refl _) _).setNew hblt (Nat.le_refl _) _).setNew hblt (Nat.le_refl _) _).setNew hblt (Nat.le_refl _) _),I5.out.out⟩
set_option maxHeartbeats 16000000 in
theorem rkey_subject (dp:Int) (b:Nat) (s:Bt) (bad:Bool) (w:World) (h:RtT w b s bad) (hh:headB s = false) (wd t1 nm:Bt) (un:Bool) (hw:Im.word s = (wd,t1)) (htk:takes [85,78] wd = (un,nm)) (hq:flagAt nm = none) (l0:(wd == [65,76,76]) = false) (l1:(wd == [70,82,79,77]) = false) (l2:(wd == [83,85,66,74,69,67,84]) = true) (l3:(wd == [84,69,88,84]) = false) (l4:(wd == [76,65,82,71,69,82]) = false) (l5:(wd == [83,77,65,76,76,69,82]) = false) (l6:(wd == [85,73,68]) = false) (l7:(wd == [78,79,84]) = false) (R:Option (Ky × Bt)) (hR:R = (signR 32 t1).bind fun q=>(Im.text atomB q.2).map fun r=>({ kind:=4,text:=r.1 },r.2)) :
  Calls Tryz.prog 81 #[.pointer (some ⟨b,0,none⟩),.int .i64 dp] w fun e w'=>Goes b w s bad (vKey w.heap.size) R e w':=by
 have HQ:=hid hq
 have HT:=hid htk
 have hblt:=h.lt
 have hdb:w.heap.size ≠ b:=by omega
 have a1:Below w.heap.size w (w.alloc (.cells #[.int .i64 0,.bool false,.string ⟨#[]⟩,.int .i64 0,.slice none 0 0] 39)):=(Below.refl _ _).alloc (Nat.le_refl _) _
 have R1:=hid (h.below a1)
 have O1:=hid (Only.of a1 (Nat.le_of_lt hblt))
 have Z1:Hid (KyB (w.alloc (.cells #[.int .i64 0,.bool false,.string ⟨#[]⟩,.int .i64 0,.slice none 0 0] 39)) w.heap.size (.int .i64 0) (.bool false) (.string ⟨#[]⟩) (.int .i64 0) (.slice none 0 0)):=hid (heap_alloc_new w _)
 have II:=hid ((Inv.start bad R).to fun _=>hR)
 have hwd:=fun W hW=>rword_any b s bad W hW
 have hle:=word_le s
 rw [hw] at hwd hle
 dsimp only at hwd hle
 clear hR h a1 hw
 go_enter Tryz.func81,Tryz.ntmps81
 go_upto_region 1 with fail
 go_cut [30] from 9 to 29 (fun v30 wx=>v30 = .bool false∧wx = (w.alloc (.cells #[.int .i64 0,.bool false,.string ⟨#[]⟩,.int .i64 0,.slice none 0 0] 39)))
 case first =>
  have hc0:=R1.out.c0
  rcases s with _ | ⟨c,s'⟩
  · go_wp2_with fail
    go_meet
    exact ⟨rfl,rfl⟩
  · have hix:∀ h:0 < (str (c :: s')).size,(str (c :: s'))[0] = c:=fun h=>rfl
    have hz:=str_size (c :: s')
    have hdg:=fun W=>rdigit_any c W
    have h42:((c.toNat:Int) == 42) = decide (c = 42):=byte_eq2 42 c
    have hh2:(isDg c || decide (c = 42)) = false:=hh
    obtain ⟨D,hD⟩:∃ D,isDg c = D:=⟨_,rfl⟩
    obtain ⟨E,hE⟩:∃ E,decide (c = 42) = E:=⟨_,rfl⟩
    rw [hD] at hdg hh2
    rw [hE] at h42 hh2
    clear hD hE hh
    have DG:=hid hdg
    clear hdg
    cases D <;> cases E
    · go_wp2_with (go_at_call 38;refine (DG.out _).mono ?_;rintro e w9 ⟨rfl,rfl⟩)
      go_meet
      exact ⟨rfl,rfl⟩
    all_goals cases hh2
 case rest =>
  obtain ⟨rfl,rfl⟩:=hcut
  clear htk hq
  go_wp2_with (go_at_call 32;refine (hwd _ R1.out).mono ?_;rintro e w2 ⟨rfl,r2,o2⟩;have a2:=(Below.refl w2.heap.size w2).alloc (Nat.le_refl _) (.cells #[.string ⟨#[83,69,69,78]⟩,.string ⟨#[65,78,83,87,69,82,69,68]⟩,.string ⟨#[70,76,65,71,71,69,68]⟩,.string ⟨#[68,69,76,69,84,69,68]⟩,.string ⟨#[68,82,65,70,84]⟩] 9);have hnl:=names_lit w2;have hgd:w2.heap.size ≠ w.heap.size:=(by have:=o2.size;simp at this;omega);have R2:=hid (r2.below a2);have O2:=hid (O1.out.trans (o2.trans (Only.of a2 (Nat.le_of_lt r2.lt))));have Z2:=hid ((Z1.out.only o2 hdb).below a2);clear r2 o2 a2)
  obtain ⟨W,hW⟩:∃ W,W = w2.alloc (.cells #[.string ⟨#[83,69,69,78]⟩,.string ⟨#[65,78,83,87,69,82,69,68]⟩,.string ⟨#[70,76,65,71,71,69,68]⟩,.string ⟨#[68,69,76,69,84,69,68]⟩,.string ⟨#[68,82,65,70,84]⟩] 9):=⟨_,rfl⟩
  rw [← hW] at hnl R2 O2 Z2
  rw [← hW]
  clear hW
  have HN:=hid hnl
  clear hnl
  go_loop [7] (fun v7=>∃ j:Nat,j ≤ 5∧v7 = .int .i64 j) (fun v7=>5 - (intOf v7).toNat)
  case atStart=>exact ⟨0,Nat.zero_le _,rfl⟩
  case round =>
   obtain ⟨j,hj,rfl⟩:=hrel
   by_cases hj5:j < 5
   · obtain ⟨y,hy⟩:∃ y,namesG[j]? = some y:=⟨_,List.getElem?_eq_getElem (by simp [namesG];omega)⟩
     have hun:=namesG_un y (List.mem_of_getElem? hy)
     have hnw:=names_word HT.out hun
     have x1:=HN.out j y hy
     have hcat:(⟨#[85,78]⟩:ByteArray) ++ str y = str (85 :: 78 :: y):=by rw [show (⟨#[85,78]⟩:ByteArray) = str [85,78] from rfl,str_append];rfl
     have hyl : y.length ≤ 100 := by have h:∀ z ∈ namesG,z.length ≤ 100:=by decide
                                     exact h y (List.mem_of_getElem? hy)
     have i0:(0:Int) ≤ (j:Int):=by omega
     have i1:(j:Int) < 5:=by omega
     have hne:nm ≠ y:=fun e=>by
      have h2:=(flag_names nm j).2 (by rw [e];exact hy)
      rw [HQ.out] at h2
      cases h2
     have e1:(wd == y) = false:=beq_eq_false_iff_ne.2 fun h=>hne (hnw.1.1 h).2
     have e2:(wd == 85 :: 78 :: y) = false:=beq_eq_false_iff_ne.2 fun h=>hne (hnw.2.1 h).2
     clear hne hnw hy hun
     go_wp2_with fail
     go_round
     case rel=>exact ⟨j + 1,by omega,by go_num⟩
     case measure=>simp [intOf];omega
   · obtain rfl:j = 5:=by omega
     clear hj hj5
     have a3:=(Below.refl W.heap.size W).alloc (Nat.le_refl _) (.cells #[.int .i64 4,.bool false,.string ⟨#[]⟩,.int .i64 0,.slice none 0 0] 39)
     have hbc:b < W.heap.size:=R2.out.lt
     have hcb:W.heap.size ≠ b:=by omega
     have hdc:w.heap.size ≠ W.heap.size:=by have:=Z2.out.lt;omega
     have hwc:w.heap.size ≤ W.heap.size:=by have:=Z2.out.lt;omega
     have z3:=Z2.out.below a3
     have y0:=z3.c0
     have yf0:=z3.free 0
     have y1:=z3.c1
     have yf1:=z3.free 1
     have y2:=z3.c2
     have yf2:=z3.free 2
     have y3:=z3.c3
     have yf3:=z3.free 3
     have y4:=z3.c4
     have yf4:=z3.free 4
     have Z3:=hid z3
     have r3:=R2.out.below a3
     have b1:=r3.c1
     have bf:=r3.free 1
     have R3:=hid r3
     have O3:=hid (O2.out.trans (Only.of a3 (Nat.le_of_lt hbc)))
     have K3:Hid (KyB (W.alloc (.cells #[.int .i64 4,.bool false,.string ⟨#[]⟩,.int .i64 0,.slice none 0 0] 39)) W.heap.size (.int .i64 4) (.bool false) (.string ⟨#[]⟩) (.int .i64 0) (.slice none 0 0)):=hid (heap_alloc_new W _)
     clear z3 r3 a3
     have hrun:RunC b 1 atomB:=fun s bad W h=>rrun1_any b s bad W h
     go_wp2_with (first
      | (go_at_call 34;refine (rblank_any b t1 bad _ R3.out).mono ?_;rintro e w4 ⟨v4,a4,s4,d4,rfl,rfl,r4,l4,o4,t4⟩;have I4:=hid (II.out.step t4);have k4:=K3.out.only o4 hcb;have x0:=k4.c0;have xf0:=k4.free 0;have x1:=k4.c1;have xf1:=k4.free 1;have x2:=k4.c2;have xf2:=k4.free 2;have x3:=k4.c3;have xf3:=k4.free 3;have x4:=k4.c4;have xf4:=k4.free 4;have z4:=Z3.out.only o4 hdb;have y0:=z4.c0;have yf0:=z4.free 0;have y1:=z4.c1;have yf1:=z4.free 1;have y2:=z4.c2;have yf2:=z4.free 2;have y3:=z4.c3;have yf3:=z4.free 3;have y4:=z4.c4;have yf4:=z4.free 4;have Z4:=hid z4;have K4:=hid k4;have b4:=r4.c1;have bg:=r4.free 1;have R4:=hid r4;have L4:=hid l4;have O4:=hid (O3.out.trans o4);clear r4 l4 o4 t4 k4 z4)
      | (go_at_call 73;refine (rany_any 1 atomB b hrun s4 d4 _ R4.out).mono ?_;rintro e w5 ⟨v5,x5,s5,d5,rfl,rfl,r5,l5,o5,t5⟩;have I5:=hid (Inv.map (show Inv bad R d4 ((Im.text atomB s4).map fun r=>(({ kind:=4,text:=r.1 }:Ky),r.2)) from I4.out) t5);have k5:=K4.out.only o5 hcb;have x0:=k5.c0;have xf0:=k5.free 0;have x1:=k5.c1;have xf1:=k5.free 1;have x2:=k5.c2;have xf2:=k5.free 2;have x3:=k5.c3;have xf3:=k5.free 3;have x4:=k5.c4;have xf4:=k5.free 4;have z5:=(Z4.out.only o5 hdb).far hdc (j:=2) (.string (str x5));have y0:=z5.c0;have yf0:=z5.free 0;have y1:=z5.c1;have yf1:=z5.free 1;have y2:=z5.c2;have yf2:=z5.free 2;have y3:=z5.c3;have yf3:=z5.free 3;have y4:=z5.c4;have yf4:=z5.free 4;have R5:=hid (r5.far hbc (j:=2) (.string (str x5)));have L5:=hid l5;have O5:=hid ((O4.out.trans o5).setNew hblt hwc (j:=2) (.string (str x5)));have kk:=k5.set2 (.string (str x5));have u0:=kk.c0;have uf0:=kk.free 0;have u1:=kk.c1;have uf1:=kk.free 1;have u2:=kk.c2;have uf2:=kk.free 2;have u3:=kk.c3;have uf3:=kk.free 3;have u4:=kk.c4;have uf4:=kk.free 4;clear r5 l5 o5 t5 k5 kk z5))
     refine bodyPost_ret (v:=.agg #[.int .i64 4,.bool false,.string (str x5),.int .i64 0,.slice none 0 0]) (by first | (simp [results,Tryz.results81,go_sem,y0,y1,y2,y3,y4];done) | (simp [results,Tryz.results81,go_sem,y0,y1,y2,y3,y4];rfl)) rfl ?_
     exact ⟨_,{ kind:=4,text:=x5 },s5,d5,rfl,⟨_,rfl,Sq.RBuf.nil (by have:=O5.out.size;simpa [World.setCell] using this)⟩,(((((R5.out.far hblt _).far hblt _).far hblt _).far hblt _).far hblt _),(by have:=L5.out;have:=L4.out;omega),(((((O5.out.setNew hblt (Nat.le_refl _) _).setNew hblt (Nat.le_refl _) _).setNew hblt (Nat.le_refl _) _).setNew hblt (Nat.le_refl _) _).setNew hblt (Nat.le_refl _) _),I5.out.out⟩
set_option maxHeartbeats 16000000 in
theorem rkey_text (dp:Int) (b:Nat) (s:Bt) (bad:Bool) (w:World) (h:RtT w b s bad) (hh:headB s = false) (wd t1 nm:Bt) (un:Bool) (hw:Im.word s = (wd,t1)) (htk:takes [85,78] wd = (un,nm)) (hq:flagAt nm = none) (l0:(wd == [65,76,76]) = false) (l1:(wd == [70,82,79,77]) = false) (l2:(wd == [83,85,66,74,69,67,84]) = false) (l3:(wd == [84,69,88,84]) = true) (l4:(wd == [76,65,82,71,69,82]) = false) (l5:(wd == [83,77,65,76,76,69,82]) = false) (l6:(wd == [85,73,68]) = false) (l7:(wd == [78,79,84]) = false) (R:Option (Ky × Bt)) (hR:R = (signR 32 t1).bind fun q=>(Im.text atomB q.2).map fun r=>({ kind:=9,text:=r.1 },r.2)) :
  Calls Tryz.prog 81 #[.pointer (some ⟨b,0,none⟩),.int .i64 dp] w fun e w'=>Goes b w s bad (vKey w.heap.size) R e w':=by
 have HQ:=hid hq
 have HT:=hid htk
 have hblt:=h.lt
 have hdb:w.heap.size ≠ b:=by omega
 have a1:Below w.heap.size w (w.alloc (.cells #[.int .i64 0,.bool false,.string ⟨#[]⟩,.int .i64 0,.slice none 0 0] 39)):=(Below.refl _ _).alloc (Nat.le_refl _) _
 have R1:=hid (h.below a1)
 have O1:=hid (Only.of a1 (Nat.le_of_lt hblt))
 have Z1:Hid (KyB (w.alloc (.cells #[.int .i64 0,.bool false,.string ⟨#[]⟩,.int .i64 0,.slice none 0 0] 39)) w.heap.size (.int .i64 0) (.bool false) (.string ⟨#[]⟩) (.int .i64 0) (.slice none 0 0)):=hid (heap_alloc_new w _)
 have II:=hid ((Inv.start bad R).to fun _=>hR)
 have hwd:=fun W hW=>rword_any b s bad W hW
 have hle:=word_le s
 rw [hw] at hwd hle
 dsimp only at hwd hle
 clear hR h a1 hw
 go_enter Tryz.func81,Tryz.ntmps81
 go_upto_region 1 with fail
 go_cut [30] from 9 to 29 (fun v30 wx=>v30 = .bool false∧wx = (w.alloc (.cells #[.int .i64 0,.bool false,.string ⟨#[]⟩,.int .i64 0,.slice none 0 0] 39)))
 case first =>
  have hc0:=R1.out.c0
  rcases s with _ | ⟨c,s'⟩
  · go_wp2_with fail
    go_meet
    exact ⟨rfl,rfl⟩
  · have hix:∀ h:0 < (str (c :: s')).size,(str (c :: s'))[0] = c:=fun h=>rfl
    have hz:=str_size (c :: s')
    have hdg:=fun W=>rdigit_any c W
    have h42:((c.toNat:Int) == 42) = decide (c = 42):=byte_eq2 42 c
    have hh2:(isDg c || decide (c = 42)) = false:=hh
    obtain ⟨D,hD⟩:∃ D,isDg c = D:=⟨_,rfl⟩
    obtain ⟨E,hE⟩:∃ E,decide (c = 42) = E:=⟨_,rfl⟩
    rw [hD] at hdg hh2
    rw [hE] at h42 hh2
    clear hD hE hh
    have DG:=hid hdg
    clear hdg
    cases D <;> cases E
    · go_wp2_with (go_at_call 38;refine (DG.out _).mono ?_;rintro e w9 ⟨rfl,rfl⟩)
      go_meet
      exact ⟨rfl,rfl⟩
    all_goals cases hh2
 case rest =>
  obtain ⟨rfl,rfl⟩:=hcut
  clear htk hq
  go_wp2_with (go_at_call 32;refine (hwd _ R1.out).mono ?_;rintro e w2 ⟨rfl,r2,o2⟩;have a2:=(Below.refl w2.heap.size w2).alloc (Nat.le_refl _) (.cells #[.string ⟨#[83,69,69,78]⟩,.string ⟨#[65,78,83,87,69,82,69,68]⟩,.string ⟨#[70,76,65,71,71,69,68]⟩,.string ⟨#[68,69,76,69,84,69,68]⟩,.string ⟨#[68,82,65,70,84]⟩] 9);have hnl:=names_lit w2;have hgd:w2.heap.size ≠ w.heap.size:=(by have:=o2.size;simp at this;omega);have R2:=hid (r2.below a2);have O2:=hid (O1.out.trans (o2.trans (Only.of a2 (Nat.le_of_lt r2.lt))));have Z2:=hid ((Z1.out.only o2 hdb).below a2);clear r2 o2 a2)
  obtain ⟨W,hW⟩:∃ W,W = w2.alloc (.cells #[.string ⟨#[83,69,69,78]⟩,.string ⟨#[65,78,83,87,69,82,69,68]⟩,.string ⟨#[70,76,65,71,71,69,68]⟩,.string ⟨#[68,69,76,69,84,69,68]⟩,.string ⟨#[68,82,65,70,84]⟩] 9):=⟨_,rfl⟩
  rw [← hW] at hnl R2 O2 Z2
  rw [← hW]
  clear hW
  have HN:=hid hnl
  clear hnl
  go_loop [7] (fun v7=>∃ j:Nat,j ≤ 5∧v7 = .int .i64 j) (fun v7=>5 - (intOf v7).toNat)
  case atStart=>exact ⟨0,Nat.zero_le _,rfl⟩
  case round =>
   obtain ⟨j,hj,rfl⟩:=hrel
   by_cases hj5:j < 5
   · obtain ⟨y,hy⟩:∃ y,namesG[j]? = some y:=⟨_,List.getElem?_eq_getElem (by simp [namesG];omega)⟩
     have hun:=namesG_un y (List.mem_of_getElem? hy)
     have hnw:=names_word HT.out hun
     have x1:=HN.out j y hy
     have hcat:(⟨#[85,78]⟩:ByteArray) ++ str y = str (85 :: 78 :: y):=by rw [show (⟨#[85,78]⟩:ByteArray) = str [85,78] from rfl,str_append];rfl
     have hyl : y.length ≤ 100 := by have h:∀ z ∈ namesG,z.length ≤ 100:=by decide
                                     exact h y (List.mem_of_getElem? hy)
     have i0:(0:Int) ≤ (j:Int):=by omega
     have i1:(j:Int) < 5:=by omega
     have hne:nm ≠ y:=fun e=>by
      have h2:=(flag_names nm j).2 (by rw [e];exact hy)
      rw [HQ.out] at h2
      cases h2
     have e1:(wd == y) = false:=beq_eq_false_iff_ne.2 fun h=>hne (hnw.1.1 h).2
     have e2:(wd == 85 :: 78 :: y) = false:=beq_eq_false_iff_ne.2 fun h=>hne (hnw.2.1 h).2
     clear hne hnw hy hun
     go_wp2_with fail
     go_round
     case rel=>exact ⟨j + 1,by omega,by go_num⟩
     case measure=>simp [intOf];omega
   · obtain rfl:j = 5:=by omega
     clear hj hj5
     have a3:=(Below.refl W.heap.size W).alloc (Nat.le_refl _) (.cells #[.int .i64 9,.bool false,.string ⟨#[]⟩,.int .i64 0,.slice none 0 0] 39)
     have hbc:b < W.heap.size:=R2.out.lt
     have hcb:W.heap.size ≠ b:=by omega
     have hdc:w.heap.size ≠ W.heap.size:=by have:=Z2.out.lt;omega
     have hwc:w.heap.size ≤ W.heap.size:=by have:=Z2.out.lt;omega
     have z3:=Z2.out.below a3
     have y0:=z3.c0
     have yf0:=z3.free 0
     have y1:=z3.c1
     have yf1:=z3.free 1
     have y2:=z3.c2
     have yf2:=z3.free 2
     have y3:=z3.c3
     have yf3:=z3.free 3
     have y4:=z3.c4
     have yf4:=z3.free 4
     have Z3:=hid z3
     have r3:=R2.out.below a3
     have b1:=r3.c1
     have bf:=r3.free 1
     have R3:=hid r3
     have O3:=hid (O2.out.trans (Only.of a3 (Nat.le_of_lt hbc)))
     have K3:Hid (KyB (W.alloc (.cells #[.int .i64 9,.bool false,.string ⟨#[]⟩,.int .i64 0,.slice none 0 0] 39)) W.heap.size (.int .i64 9) (.bool false) (.string ⟨#[]⟩) (.int .i64 0) (.slice none 0 0)):=hid (heap_alloc_new W _)
     clear z3 r3 a3
     have hrun:RunC b 1 atomB:=fun s bad W h=>rrun1_any b s bad W h
     go_wp2_with (first
      | (go_at_call 34;refine (rblank_any b t1 bad _ R3.out).mono ?_;rintro e w4 ⟨v4,a4,s4,d4,rfl,rfl,r4,l4,o4,t4⟩;have I4:=hid (II.out.step t4);have k4:=K3.out.only o4 hcb;have x0:=k4.c0;have xf0:=k4.free 0;have x1:=k4.c1;have xf1:=k4.free 1;have x2:=k4.c2;have xf2:=k4.free 2;have x3:=k4.c3;have xf3:=k4.free 3;have x4:=k4.c4;have xf4:=k4.free 4;have z4:=Z3.out.only o4 hdb;have y0:=z4.c0;have yf0:=z4.free 0;have y1:=z4.c1;have yf1:=z4.free 1;have y2:=z4.c2;have yf2:=z4.free 2;have y3:=z4.c3;have yf3:=z4.free 3;have y4:=z4.c4;have yf4:=z4.free 4;have Z4:=hid z4;have K4:=hid k4;have b4:=r4.c1;have bg:=r4.free 1;have R4:=hid r4;have L4:=hid l4;have O4:=hid (O3.out.trans o4);clear r4 l4 o4 t4 k4 z4)
      | (go_at_call 73;refine (rany_any 1 atomB b hrun s4 d4 _ R4.out).mono ?_;rintro e w5 ⟨v5,x5,s5,d5,rfl,rfl,r5,l5,o5,t5⟩;have I5:=hid (Inv.map (show Inv bad R d4 ((Im.text atomB s4).map fun r=>(({ kind:=9,text:=r.1 }:Ky),r.2)) from I4.out) t5);have k5:=K4.out.only o5 hcb;have x0:=k5.c0;have xf0:=k5.free 0;have x1:=k5.c1;have xf1:=k5.free 1;have x2:=k5.c2;have xf2:=k5.free 2;have x3:=k5.c3;have xf3:=k5.free 3;have x4:=k5.c4;have xf4:=k5.free 4;have z5:=(Z4.out.only o5 hdb).far hdc (j:=2) (.string (str x5));have y0:=z5.c0;have yf0:=z5.free 0;have y1:=z5.c1;have yf1:=z5.free 1;have y2:=z5.c2;have yf2:=z5.free 2;have y3:=z5.c3;have yf3:=z5.free 3;have y4:=z5.c4;have yf4:=z5.free 4;have R5:=hid (r5.far hbc (j:=2) (.string (str x5)));have L5:=hid l5;have O5:=hid ((O4.out.trans o5).setNew hblt hwc (j:=2) (.string (str x5)));have kk:=k5.set2 (.string (str x5));have u0:=kk.c0;have uf0:=kk.free 0;have u1:=kk.c1;have uf1:=kk.free 1;have u2:=kk.c2;have uf2:=kk.free 2;have u3:=kk.c3;have uf3:=kk.free 3;have u4:=kk.c4;have uf4:=kk.free 4;clear r5 l5 o5 t5 k5 kk z5))
     refine bodyPost_ret (v:=.agg #[.int .i64 9,.bool false,.string (str x5),.int .i64 0,.slice none 0 0]) (by first | (simp [results,Tryz.results81,go_sem,y0,y1,y2,y3,y4];done) | (simp [results,Tryz.results81,go_sem,y0,y1,y2,y3,y4];rfl)) rfl ?_
     exact ⟨_,{ kind:=9,text:=x5 },s5,d5,rfl,⟨_,rfl,Sq.RBuf.nil (by have:=O5.out.size;simpa [World.setCell] using this)⟩,(((((R5.out.far hblt _).far hblt _).far hblt _).far hblt _).far hblt _),(by have:=L5.out;have:=L4.out;omega),(((((O5.out.setNew hblt (Nat.le_refl _) _).setNew hblt (Nat.le_refl _) _).setNew hblt (Nat.le_refl _) _).setNew hblt (Nat.le_refl _) _).setNew hblt (Nat.le_refl _) _),I5.out.out⟩
set_option maxHeartbeats 16000000 in
theorem rkey_larger (dp:Int) (b:Nat) (s:Bt) (bad:Bool) (w:World) (h:RtT w b s bad) (hh:headB s = false) (wd t1 nm:Bt) (un:Bool) (hw:Im.word s = (wd,t1)) (htk:takes [85,78] wd = (un,nm)) (hq:flagAt nm = none) (l0:(wd == [65,76,76]) = false) (l1:(wd == [70,82,79,77]) = false) (l2:(wd == [83,85,66,74,69,67,84]) = false) (l3:(wd == [84,69,88,84]) = false) (l4:(wd == [76,65,82,71,69,82]) = true) (l5:(wd == [83,77,65,76,76,69,82]) = false) (l6:(wd == [85,73,68]) = false) (l7:(wd == [78,79,84]) = false) (R:Option (Ky × Bt)) (hR:R = (signR 32 t1).bind fun q=>(number 0 4294967295 q.2).map fun r=>({ kind:=5,n:=r.1 },r.2)) :
  Calls Tryz.prog 81 #[.pointer (some ⟨b,0,none⟩),.int .i64 dp] w fun e w'=>Goes b w s bad (vKey w.heap.size) R e w':=by
 have HQ:=hid hq
 have HT:=hid htk
 have hblt:=h.lt
 have hdb:w.heap.size ≠ b:=by omega
 have a1:Below w.heap.size w (w.alloc (.cells #[.int .i64 0,.bool false,.string ⟨#[]⟩,.int .i64 0,.slice none 0 0] 39)):=(Below.refl _ _).alloc (Nat.le_refl _) _
 have R1:=hid (h.below a1)
 have O1:=hid (Only.of a1 (Nat.le_of_lt hblt))
 have Z1:Hid (KyB (w.alloc (.cells #[.int .i64 0,.bool false,.string ⟨#[]⟩,.int .i64 0,.slice none 0 0] 39)) w.heap.size (.int .i64 0) (.bool false) (.string ⟨#[]⟩) (.int .i64 0) (.slice none 0 0)):=hid (heap_alloc_new w _)
 have II:=hid ((Inv.start bad R).to fun _=>hR)
 have hwd:=fun W hW=>rword_any b s bad W hW
 have hle:=word_le s
 rw [hw] at hwd hle
 dsimp only at hwd hle
 clear hR h a1 hw
 go_enter Tryz.func81,Tryz.ntmps81
 go_upto_region 1 with fail
 go_cut [30] from 9 to 29 (fun v30 wx=>v30 = .bool false∧wx = (w.alloc (.cells #[.int .i64 0,.bool false,.string ⟨#[]⟩,.int .i64 0,.slice none 0 0] 39)))
 case first =>
  have hc0:=R1.out.c0
  rcases s with _ | ⟨c,s'⟩
  · go_wp2_with fail
    go_meet
    exact ⟨rfl,rfl⟩
  · have hix:∀ h:0 < (str (c :: s')).size,(str (c :: s'))[0] = c:=fun h=>rfl
    have hz:=str_size (c :: s')
    have hdg:=fun W=>rdigit_any c W
    have h42:((c.toNat:Int) == 42) = decide (c = 42):=byte_eq2 42 c
    have hh2:(isDg c || decide (c = 42)) = false:=hh
    obtain ⟨D,hD⟩:∃ D,isDg c = D:=⟨_,rfl⟩
    obtain ⟨E,hE⟩:∃ E,decide (c = 42) = E:=⟨_,rfl⟩
    rw [hD] at hdg hh2
    rw [hE] at h42 hh2
    clear hD hE hh
    have DG:=hid hdg
    clear hdg
    cases D <;> cases E
    · go_wp2_with (go_at_call 38;refine (DG.out _).mono ?_;rintro e w9 ⟨rfl,rfl⟩)
      go_meet
      exact ⟨rfl,rfl⟩
    all_goals cases hh2
 case rest =>
  obtain ⟨rfl,rfl⟩:=hcut
  clear htk hq
  go_wp2_with (go_at_call 32;refine (hwd _ R1.out).mono ?_;rintro e w2 ⟨rfl,r2,o2⟩;have a2:=(Below.refl w2.heap.size w2).alloc (Nat.le_refl _) (.cells #[.string ⟨#[83,69,69,78]⟩,.string ⟨#[65,78,83,87,69,82,69,68]⟩,.string ⟨#[70,76,65,71,71,69,68]⟩,.string ⟨#[68,69,76,69,84,69,68]⟩,.string ⟨#[68,82,65,70,84]⟩] 9);have hnl:=names_lit w2;have hgd:w2.heap.size ≠ w.heap.size:=(by have:=o2.size;simp at this;omega);have R2:=hid (r2.below a2);have O2:=hid (O1.out.trans (o2.trans (Only.of a2 (Nat.le_of_lt r2.lt))));have Z2:=hid ((Z1.out.only o2 hdb).below a2);clear r2 o2 a2)
  obtain ⟨W,hW⟩:∃ W,W = w2.alloc (.cells #[.string ⟨#[83,69,69,78]⟩,.string ⟨#[65,78,83,87,69,82,69,68]⟩,.string ⟨#[70,76,65,71,71,69,68]⟩,.string ⟨#[68,69,76,69,84,69,68]⟩,.string ⟨#[68,82,65,70,84]⟩] 9):=⟨_,rfl⟩
  rw [← hW] at hnl R2 O2 Z2
  rw [← hW]
  clear hW
  have HN:=hid hnl
  clear hnl
  go_loop [7] (fun v7=>∃ j:Nat,j ≤ 5∧v7 = .int .i64 j) (fun v7=>5 - (intOf v7).toNat)
  case atStart=>exact ⟨0,Nat.zero_le _,rfl⟩
  case round =>
   obtain ⟨j,hj,rfl⟩:=hrel
   by_cases hj5:j < 5
   · obtain ⟨y,hy⟩:∃ y,namesG[j]? = some y:=⟨_,List.getElem?_eq_getElem (by simp [namesG];omega)⟩
     have hun:=namesG_un y (List.mem_of_getElem? hy)
     have hnw:=names_word HT.out hun
     have x1:=HN.out j y hy
     have hcat:(⟨#[85,78]⟩:ByteArray) ++ str y = str (85 :: 78 :: y):=by rw [show (⟨#[85,78]⟩:ByteArray) = str [85,78] from rfl,str_append];rfl
     have hyl : y.length ≤ 100 := by have h:∀ z ∈ namesG,z.length ≤ 100:=by decide
                                     exact h y (List.mem_of_getElem? hy)
     have i0:(0:Int) ≤ (j:Int):=by omega
     have i1:(j:Int) < 5:=by omega
     have hne:nm ≠ y:=fun e=>by
      have h2:=(flag_names nm j).2 (by rw [e];exact hy)
      rw [HQ.out] at h2
      cases h2
     have e1:(wd == y) = false:=beq_eq_false_iff_ne.2 fun h=>hne (hnw.1.1 h).2
     have e2:(wd == 85 :: 78 :: y) = false:=beq_eq_false_iff_ne.2 fun h=>hne (hnw.2.1 h).2
     clear hne hnw hy hun
     go_wp2_with fail
     go_round
     case rel=>exact ⟨j + 1,by omega,by go_num⟩
     case measure=>simp [intOf];omega
   · obtain rfl:j = 5:=by omega
     clear hj hj5
     have a3:=(Below.refl W.heap.size W).alloc (Nat.le_refl _) (.cells #[.int .i64 5,.bool false,.string ⟨#[]⟩,.int .i64 0,.slice none 0 0] 39)
     have hbc:b < W.heap.size:=R2.out.lt
     have hcb:W.heap.size ≠ b:=by omega
     have hdc:w.heap.size ≠ W.heap.size:=by have:=Z2.out.lt;omega
     have hwc:w.heap.size ≤ W.heap.size:=by have:=Z2.out.lt;omega
     have z3:=Z2.out.below a3
     have y0:=z3.c0
     have yf0:=z3.free 0
     have y1:=z3.c1
     have yf1:=z3.free 1
     have y2:=z3.c2
     have yf2:=z3.free 2
     have y3:=z3.c3
     have yf3:=z3.free 3
     have y4:=z3.c4
     have yf4:=z3.free 4
     have Z3:=hid z3
     have r3:=R2.out.below a3
     have b1:=r3.c1
     have bf:=r3.free 1
     have R3:=hid r3
     have O3:=hid (O2.out.trans (Only.of a3 (Nat.le_of_lt hbc)))
     have K3:Hid (KyB (W.alloc (.cells #[.int .i64 5,.bool false,.string ⟨#[]⟩,.int .i64 0,.slice none 0 0] 39)) W.heap.size (.int .i64 5) (.bool false) (.string ⟨#[]⟩) (.int .i64 0) (.slice none 0 0)):=hid (heap_alloc_new W _)
     clear z3 r3 a3
     go_wp2_with (first
      | (go_at_call 34;refine (rblank_any b t1 bad _ R3.out).mono ?_;rintro e w4 ⟨v4,a4,s4,d4,rfl,rfl,r4,l4,o4,t4⟩;have I4:=hid (II.out.step t4);have k4:=K3.out.only o4 hcb;have x0:=k4.c0;have xf0:=k4.free 0;have x1:=k4.c1;have xf1:=k4.free 1;have x2:=k4.c2;have xf2:=k4.free 2;have x3:=k4.c3;have xf3:=k4.free 3;have x4:=k4.c4;have xf4:=k4.free 4;have z4:=Z3.out.only o4 hdb;have y0:=z4.c0;have yf0:=z4.free 0;have y1:=z4.c1;have yf1:=z4.free 1;have y2:=z4.c2;have yf2:=z4.free 2;have y3:=z4.c3;have yf3:=z4.free 3;have y4:=z4.c4;have yf4:=z4.free 4;have Z4:=hid z4;have K4:=hid k4;have b4:=r4.c1;have bg:=r4.free 1;have R4:=hid r4;have L4:=hid l4;have O4:=hid (O3.out.trans o4);clear r4 l4 o4 t4 k4 z4)
      | (go_at_call 113;refine (rnum_any b s4 0 4294967295 d4 _ R4.out).mono ?_;rintro e w5 ⟨v5,x5,s5,d5,rfl,rfl,r5,l5,o5,t5⟩;have I5:=hid (Inv.map (show Inv bad R d4 ((number 0 4294967295 s4).map fun r=>(({ kind:=5,n:=r.1 }:Ky),r.2)) from I4.out) t5);have k5:=K4.out.only o5 hcb;have x0:=k5.c0;have xf0:=k5.free 0;have x1:=k5.c1;have xf1:=k5.free 1;have x2:=k5.c2;have xf2:=k5.free 2;have x3:=k5.c3;have xf3:=k5.free 3;have x4:=k5.c4;have xf4:=k5.free 4;have z5:=(Z4.out.only o5 hdb).far hdc (j:=3) (.int .i64 x5);have y0:=z5.c0;have yf0:=z5.free 0;have y1:=z5.c1;have yf1:=z5.free 1;have y2:=z5.c2;have yf2:=z5.free 2;have y3:=z5.c3;have yf3:=z5.free 3;have y4:=z5.c4;have yf4:=z5.free 4;have R5:=hid (r5.far hbc (j:=3) (.int .i64 x5));have L5:=hid l5;have O5:=hid ((O4.out.trans o5).setNew hblt hwc (j:=3) (.int .i64 x5));have kk:=k5.set3 (.int .i64 x5);have u0:=kk.c0;have uf0:=kk.free 0;have u1:=kk.c1;have uf1:=kk.free 1;have u2:=kk.c2;have uf2:=kk.free 2;have u3:=kk.c3;have uf3:=kk.free 3;have u4:=kk.c4;have uf4:=kk.free 4;clear r5 l5 o5 t5 k5 kk z5))
     refine bodyPost_ret (v:=.agg #[.int .i64 5,.bool false,.string (str []),.int .i64 x5,.slice none 0 0]) (by first | (simp [results,Tryz.results81,go_sem,y0,y1,y2,y3,y4];done) | (simp [results,Tryz.results81,go_sem,y0,y1,y2,y3,y4];rfl)) rfl ?_
     exact ⟨_,{ kind:=5,n:=x5 },s5,d5,rfl,⟨_,rfl,Sq.RBuf.nil (by have:=O5.out.size;simpa [World.setCell] using this)⟩,(((((R5.out.far hblt _).far hblt _).far hblt _).far hblt _).far hblt _),(by have:=L5.out;have:=L4.out;omega),(((((O5.out.setNew hblt (Nat.le_refl _) _).setNew hblt (Nat.le_refl _) _).setNew hblt (Nat.le_refl _) _).setNew hblt (Nat.le_refl _) _).setNew hblt (Nat.le_refl _) _),I5.out.out⟩
set_option maxHeartbeats 16000000 in
theorem rkey_smaller (dp:Int) (b:Nat) (s:Bt) (bad:Bool) (w:World) (h:RtT w b s bad) (hh:headB s = false) (wd t1 nm:Bt) (un:Bool) (hw:Im.word s = (wd,t1)) (htk:takes [85,78] wd = (un,nm)) (hq:flagAt nm = none) (l0:(wd == [65,76,76]) = false) (l1:(wd == [70,82,79,77]) = false) (l2:(wd == [83,85,66,74,69,67,84]) = false) (l3:(wd == [84,69,88,84]) = false) (l4:(wd == [76,65,82,71,69,82]) = false) (l5:(wd == [83,77,65,76,76,69,82]) = true) (l6:(wd == [85,73,68]) = false) (l7:(wd == [78,79,84]) = false) (R:Option (Ky × Bt)) (hR:R = (signR 32 t1).bind fun q=>(number 0 4294967295 q.2).map fun r=>({ kind:=6,n:=r.1 },r.2)) :
  Calls Tryz.prog 81 #[.pointer (some ⟨b,0,none⟩),.int .i64 dp] w fun e w'=>Goes b w s bad (vKey w.heap.size) R e w':=by
 have HQ:=hid hq
 have HT:=hid htk
 have hblt:=h.lt
 have hdb:w.heap.size ≠ b:=by omega
 have a1:Below w.heap.size w (w.alloc (.cells #[.int .i64 0,.bool false,.string ⟨#[]⟩,.int .i64 0,.slice none 0 0] 39)):=(Below.refl _ _).alloc (Nat.le_refl _) _
 have R1:=hid (h.below a1)
 have O1:=hid (Only.of a1 (Nat.le_of_lt hblt))
 have Z1:Hid (KyB (w.alloc (.cells #[.int .i64 0,.bool false,.string ⟨#[]⟩,.int .i64 0,.slice none 0 0] 39)) w.heap.size (.int .i64 0) (.bool false) (.string ⟨#[]⟩) (.int .i64 0) (.slice none 0 0)):=hid (heap_alloc_new w _)
 have II:=hid ((Inv.start bad R).to fun _=>hR)
 have hwd:=fun W hW=>rword_any b s bad W hW
 have hle:=word_le s
 rw [hw] at hwd hle
 dsimp only at hwd hle
 clear hR h a1 hw
 go_enter Tryz.func81,Tryz.ntmps81
 go_upto_region 1 with fail
 go_cut [30] from 9 to 29 (fun v30 wx=>v30 = .bool false∧wx = (w.alloc (.cells #[.int .i64 0,.bool false,.string ⟨#[]⟩,.int .i64 0,.slice none 0 0] 39)))
 case first =>
  have hc0:=R1.out.c0
  rcases s with _ | ⟨c,s'⟩
  · go_wp2_with fail
    go_meet
    exact ⟨rfl,rfl⟩
  · have hix:∀ h:0 < (str (c :: s')).size,(str (c :: s'))[0] = c:=fun h=>rfl
    have hz:=str_size (c :: s')
    have hdg:=fun W=>rdigit_any c W
    have h42:((c.toNat:Int) == 42) = decide (c = 42):=byte_eq2 42 c
    have hh2:(isDg c || decide (c = 42)) = false:=hh
    obtain ⟨D,hD⟩:∃ D,isDg c = D:=⟨_,rfl⟩
    obtain ⟨E,hE⟩:∃ E,decide (c = 42) = E:=⟨_,rfl⟩
    rw [hD] at hdg hh2
    rw [hE] at h42 hh2
    clear hD hE hh
    have DG:=hid hdg
    clear hdg
    cases D <;> cases E
    · go_wp2_with (go_at_call 38;refine (DG.out _).mono ?_;rintro e w9 ⟨rfl,rfl⟩)
      go_meet
      exact ⟨rfl,rfl⟩
    all_goals cases hh2
 case rest =>
  obtain ⟨rfl,rfl⟩:=hcut
  clear htk hq
  go_wp2_with (go_at_call 32;refine (hwd _ R1.out).mono ?_;rintro e w2 ⟨rfl,r2,o2⟩;have a2:=(Below.refl w2.heap.size w2).alloc (Nat.le_refl _) (.cells #[.string ⟨#[83,69,69,78]⟩,.string ⟨#[65,78,83,87,69,82,69,68]⟩,.string ⟨#[70,76,65,71,71,69,68]⟩,.string ⟨#[68,69,76,69,84,69,68]⟩,.string ⟨#[68,82,65,70,84]⟩] 9);have hnl:=names_lit w2;have hgd:w2.heap.size ≠ w.heap.size:=(by have:=o2.size;simp at this;omega);have R2:=hid (r2.below a2);have O2:=hid (O1.out.trans (o2.trans (Only.of a2 (Nat.le_of_lt r2.lt))));have Z2:=hid ((Z1.out.only o2 hdb).below a2);clear r2 o2 a2)
  obtain ⟨W,hW⟩:∃ W,W = w2.alloc (.cells #[.string ⟨#[83,69,69,78]⟩,.string ⟨#[65,78,83,87,69,82,69,68]⟩,.string ⟨#[70,76,65,71,71,69,68]⟩,.string ⟨#[68,69,76,69,84,69,68]⟩,.string ⟨#[68,82,65,70,84]⟩] 9):=⟨_,rfl⟩
  rw [← hW] at hnl R2 O2 Z2
  rw [← hW]
  clear hW
  have HN:=hid hnl
  clear hnl
  go_loop [7] (fun v7=>∃ j:Nat,j ≤ 5∧v7 = .int .i64 j) (fun v7=>5 - (intOf v7).toNat)
  case atStart=>exact ⟨0,Nat.zero_le _,rfl⟩
  case round =>
   obtain ⟨j,hj,rfl⟩:=hrel
   by_cases hj5:j < 5
   · obtain ⟨y,hy⟩:∃ y,namesG[j]? = some y:=⟨_,List.getElem?_eq_getElem (by simp [namesG];omega)⟩
     have hun:=namesG_un y (List.mem_of_getElem? hy)
     have hnw:=names_word HT.out hun
     have x1:=HN.out j y hy
     have hcat:(⟨#[85,78]⟩:ByteArray) ++ str y = str (85 :: 78 :: y):=by rw [show (⟨#[85,78]⟩:ByteArray) = str [85,78] from rfl,str_append];rfl
     have hyl : y.length ≤ 100 := by have h:∀ z ∈ namesG,z.length ≤ 100:=by decide
                                     exact h y (List.mem_of_getElem? hy)
     have i0:(0:Int) ≤ (j:Int):=by omega
     have i1:(j:Int) < 5:=by omega
     have hne:nm ≠ y:=fun e=>by
      have h2:=(flag_names nm j).2 (by rw [e];exact hy)
      rw [HQ.out] at h2
      cases h2
     have e1:(wd == y) = false:=beq_eq_false_iff_ne.2 fun h=>hne (hnw.1.1 h).2
     have e2:(wd == 85 :: 78 :: y) = false:=beq_eq_false_iff_ne.2 fun h=>hne (hnw.2.1 h).2
     clear hne hnw hy hun
     go_wp2_with fail
     go_round
     case rel=>exact ⟨j + 1,by omega,by go_num⟩
     case measure=>simp [intOf];omega
   · obtain rfl:j = 5:=by omega
     clear hj hj5
     have a3:=(Below.refl W.heap.size W).alloc (Nat.le_refl _) (.cells #[.int .i64 6,.bool false,.string ⟨#[]⟩,.int .i64 0,.slice none 0 0] 39)
     have hbc:b < W.heap.size:=R2.out.lt
     have hcb:W.heap.size ≠ b:=by omega
     have hdc:w.heap.size ≠ W.heap.size:=by have:=Z2.out.lt;omega
     have hwc:w.heap.size ≤ W.heap.size:=by have:=Z2.out.lt;omega
     have z3:=Z2.out.below a3
     have y0:=z3.c0
     have yf0:=z3.free 0
     have y1:=z3.c1
     have yf1:=z3.free 1
     have y2:=z3.c2
     have yf2:=z3.free 2
     have y3:=z3.c3
     have yf3:=z3.free 3
     have y4:=z3.c4
     have yf4:=z3.free 4
     have Z3:=hid z3
     have r3:=R2.out.below a3
     have b1:=r3.c1
     have bf:=r3.free 1
     have R3:=hid r3
     have O3:=hid (O2.out.trans (Only.of a3 (Nat.le_of_lt hbc)))
     have K3:Hid (KyB (W.alloc (.cells #[.int .i64 6,.bool false,.string ⟨#[]⟩,.int .i64 0,.slice none 0 0] 39)) W.heap.size (.int .i64 6) (.bool false) (.string ⟨#[]⟩) (.int .i64 0) (.slice none 0 0)):=hid (heap_alloc_new W _)
     clear z3 r3 a3
     go_wp2_with (first
      | (go_at_call 34;refine (rblank_any b t1 bad _ R3.out).mono ?_;rintro e w4 ⟨v4,a4,s4,d4,rfl,rfl,r4,l4,o4,t4⟩;have I4:=hid (II.out.step t4);have k4:=K3.out.only o4 hcb;have x0:=k4.c0;have xf0:=k4.free 0;have x1:=k4.c1;have xf1:=k4.free 1;have x2:=k4.c2;have xf2:=k4.free 2;have x3:=k4.c3;have xf3:=k4.free 3;have x4:=k4.c4;have xf4:=k4.free 4;have z4:=Z3.out.only o4 hdb;have y0:=z4.c0;have yf0:=z4.free 0;have y1:=z4.c1;have yf1:=z4.free 1;have y2:=z4.c2;have yf2:=z4.free 2;have y3:=z4.c3;have yf3:=z4.free 3;have y4:=z4.c4;have yf4:=z4.free 4;have Z4:=hid z4;have K4:=hid k4;have b4:=r4.c1;have bg:=r4.free 1;have R4:=hid r4;have L4:=hid l4;have O4:=hid (O3.out.trans o4);clear r4 l4 o4 t4 k4 z4)
      | (go_at_call 113;refine (rnum_any b s4 0 4294967295 d4 _ R4.out).mono ?_;rintro e w5 ⟨v5,x5,s5,d5,rfl,rfl,r5,l5,o5,t5⟩;have I5:=hid (Inv.map (show Inv bad R d4 ((number 0 4294967295 s4).map fun r=>(({ kind:=6,n:=r.1 }:Ky),r.2)) from I4.out) t5);have k5:=K4.out.only o5 hcb;have x0:=k5.c0;have xf0:=k5.free 0;have x1:=k5.c1;have xf1:=k5.free 1;have x2:=k5.c2;have xf2:=k5.free 2;have x3:=k5.c3;have xf3:=k5.free 3;have x4:=k5.c4;have xf4:=k5.free 4;have z5:=(Z4.out.only o5 hdb).far hdc (j:=3) (.int .i64 x5);have y0:=z5.c0;have yf0:=z5.free 0;have y1:=z5.c1;have yf1:=z5.free 1;have y2:=z5.c2;have yf2:=z5.free 2;have y3:=z5.c3;have yf3:=z5.free 3;have y4:=z5.c4;have yf4:=z5.free 4;have R5:=hid (r5.far hbc (j:=3) (.int .i64 x5));have L5:=hid l5;have O5:=hid ((O4.out.trans o5).setNew hblt hwc (j:=3) (.int .i64 x5));have kk:=k5.set3 (.int .i64 x5);have u0:=kk.c0;have uf0:=kk.free 0;have u1:=kk.c1;have uf1:=kk.free 1;have u2:=kk.c2;have uf2:=kk.free 2;have u3:=kk.c3;have uf3:=kk.free 3;have u4:=kk.c4;have uf4:=kk.free 4;clear r5 l5 o5 t5 k5 kk z5))
     refine bodyPost_ret (v:=.agg #[.int .i64 6,.bool false,.string (str []),.int .i64 x5,.slice none 0 0]) (by first | (simp [results,Tryz.results81,go_sem,y0,y1,y2,y3,y4];done) | (simp [results,Tryz.results81,go_sem,y0,y1,y2,y3,y4];rfl)) rfl ?_
     exact ⟨_,{ kind:=6,n:=x5 },s5,d5,rfl,⟨_,rfl,Sq.RBuf.nil (by have:=O5.out.size;simpa [World.setCell] using this)⟩,(((((R5.out.far hblt _).far hblt _).far hblt _).far hblt _).far hblt _),(by have:=L5.out;have:=L4.out;omega),(((((O5.out.setNew hblt (Nat.le_refl _) _).setNew hblt (Nat.le_refl _) _).setNew hblt (Nat.le_refl _) _).setNew hblt (Nat.le_refl _) _).setNew hblt (Nat.le_refl _) _),I5.out.out⟩
set_option maxHeartbeats 16000000 in
theorem rkey_uid (dp:Int) (b:Nat) (s:Bt) (bad:Bool) (w:World) (h:RtT w b s bad) (hh:headB s = false) (wd t1 nm:Bt) (un:Bool) (hw:Im.word s = (wd,t1)) (htk:takes [85,78] wd = (un,nm)) (hq:flagAt nm = none) (l0:(wd == [65,76,76]) = false) (l1:(wd == [70,82,79,77]) = false) (l2:(wd == [83,85,66,74,69,67,84]) = false) (l3:(wd == [84,69,88,84]) = false) (l4:(wd == [76,65,82,71,69,82]) = false) (l5:(wd == [83,77,65,76,76,69,82]) = false) (l6:(wd == [85,73,68]) = true) (l7:(wd == [78,79,84]) = false) (R:Option (Ky × Bt)) (hR:R = (signR 32 t1).bind fun q=>(Im.set q.2).map fun r=>({ kind:=7,set:=r.1 },r.2)) :
  Calls Tryz.prog 81 #[.pointer (some ⟨b,0,none⟩),.int .i64 dp] w fun e w'=>Goes b w s bad (vKey w.heap.size) R e w':=by
 have HQ:=hid hq
 have HT:=hid htk
 have hblt:=h.lt
 have hdb:w.heap.size ≠ b:=by omega
 have a1:Below w.heap.size w (w.alloc (.cells #[.int .i64 0,.bool false,.string ⟨#[]⟩,.int .i64 0,.slice none 0 0] 39)):=(Below.refl _ _).alloc (Nat.le_refl _) _
 have R1:=hid (h.below a1)
 have O1:=hid (Only.of a1 (Nat.le_of_lt hblt))
 have Z1:Hid (KyB (w.alloc (.cells #[.int .i64 0,.bool false,.string ⟨#[]⟩,.int .i64 0,.slice none 0 0] 39)) w.heap.size (.int .i64 0) (.bool false) (.string ⟨#[]⟩) (.int .i64 0) (.slice none 0 0)):=hid (heap_alloc_new w _)
 have II:=hid ((Inv.start bad R).to fun _=>hR)
 have hwd:=fun W hW=>rword_any b s bad W hW
 have hle:=word_le s
 rw [hw] at hwd hle
 dsimp only at hwd hle
 clear hR h a1 hw
 go_enter Tryz.func81,Tryz.ntmps81
 go_upto_region 1 with fail
 go_cut [30] from 9 to 29 (fun v30 wx=>v30 = .bool false∧wx = (w.alloc (.cells #[.int .i64 0,.bool false,.string ⟨#[]⟩,.int .i64 0,.slice none 0 0] 39)))
 case first =>
  have hc0:=R1.out.c0
  rcases s with _ | ⟨c,s'⟩
  · go_wp2_with fail
    go_meet
    exact ⟨rfl,rfl⟩
  · have hix:∀ h:0 < (str (c :: s')).size,(str (c :: s'))[0] = c:=fun h=>rfl
    have hz:=str_size (c :: s')
    have hdg:=fun W=>rdigit_any c W
    have h42:((c.toNat:Int) == 42) = decide (c = 42):=byte_eq2 42 c
    have hh2:(isDg c || decide (c = 42)) = false:=hh
    obtain ⟨D,hD⟩:∃ D,isDg c = D:=⟨_,rfl⟩
    obtain ⟨E,hE⟩:∃ E,decide (c = 42) = E:=⟨_,rfl⟩
    rw [hD] at hdg hh2
    rw [hE] at h42 hh2
    clear hD hE hh
    have DG:=hid hdg
    clear hdg
    cases D <;> cases E
    · go_wp2_with (go_at_call 38;refine (DG.out _).mono ?_;rintro e w9 ⟨rfl,rfl⟩)
      go_meet
      exact ⟨rfl,rfl⟩
    all_goals cases hh2
 case rest =>
  obtain ⟨rfl,rfl⟩:=hcut
  clear htk hq
  go_wp2_with (go_at_call 32;refine (hwd _ R1.out).mono ?_;rintro e w2 ⟨rfl,r2,o2⟩;have a2:=(Below.refl w2.heap.size w2).alloc (Nat.le_refl _) (.cells #[.string ⟨#[83,69,69,78]⟩,.string ⟨#[65,78,83,87,69,82,69,68]⟩,.string ⟨#[70,76,65,71,71,69,68]⟩,.string ⟨#[68,69,76,69,84,69,68]⟩,.string ⟨#[68,82,65,70,84]⟩] 9);have hnl:=names_lit w2;have hgd:w2.heap.size ≠ w.heap.size:=(by have:=o2.size;simp at this;omega);have R2:=hid (r2.below a2);have O2:=hid (O1.out.trans (o2.trans (Only.of a2 (Nat.le_of_lt r2.lt))));have Z2:=hid ((Z1.out.only o2 hdb).below a2);clear r2 o2 a2)
  obtain ⟨W,hW⟩:∃ W,W = w2.alloc (.cells #[.string ⟨#[83,69,69,78]⟩,.string ⟨#[65,78,83,87,69,82,69,68]⟩,.string ⟨#[70,76,65,71,71,69,68]⟩,.string ⟨#[68,69,76,69,84,69,68]⟩,.string ⟨#[68,82,65,70,84]⟩] 9):=⟨_,rfl⟩
  rw [← hW] at hnl R2 O2 Z2
  rw [← hW]
  clear hW
  have HN:=hid hnl
  clear hnl
  go_loop [7] (fun v7=>∃ j:Nat,j ≤ 5∧v7 = .int .i64 j) (fun v7=>5 - (intOf v7).toNat)
  case atStart=>exact ⟨0,Nat.zero_le _,rfl⟩
  case round =>
   obtain ⟨j,hj,rfl⟩:=hrel
   by_cases hj5:j < 5
   · obtain ⟨y,hy⟩:∃ y,namesG[j]? = some y:=⟨_,List.getElem?_eq_getElem (by simp [namesG];omega)⟩
     have hun:=namesG_un y (List.mem_of_getElem? hy)
     have hnw:=names_word HT.out hun
     have x1:=HN.out j y hy
     have hcat:(⟨#[85,78]⟩:ByteArray) ++ str y = str (85 :: 78 :: y):=by rw [show (⟨#[85,78]⟩:ByteArray) = str [85,78] from rfl,str_append];rfl
     have hyl : y.length ≤ 100 := by have h:∀ z ∈ namesG,z.length ≤ 100:=by decide
                                     exact h y (List.mem_of_getElem? hy)
     have i0:(0:Int) ≤ (j:Int):=by omega
     have i1:(j:Int) < 5:=by omega
     have hne:nm ≠ y:=fun e=>by
      have h2:=(flag_names nm j).2 (by rw [e];exact hy)
      rw [HQ.out] at h2
      cases h2
     have e1:(wd == y) = false:=beq_eq_false_iff_ne.2 fun h=>hne (hnw.1.1 h).2
     have e2:(wd == 85 :: 78 :: y) = false:=beq_eq_false_iff_ne.2 fun h=>hne (hnw.2.1 h).2
     clear hne hnw hy hun
     go_wp2_with fail
     go_round
     case rel=>exact ⟨j + 1,by omega,by go_num⟩
     case measure=>simp [intOf];omega
   · obtain rfl:j = 5:=by omega
     clear hj hj5
     have a3:=(Below.refl W.heap.size W).alloc (Nat.le_refl _) (.cells #[.int .i64 7,.bool false,.string ⟨#[]⟩,.int .i64 0,.slice none 0 0] 39)
     have hbc:b < W.heap.size:=R2.out.lt
     have hcb:W.heap.size ≠ b:=by omega
     have hdc:w.heap.size ≠ W.heap.size:=by have:=Z2.out.lt;omega
     have hwc:w.heap.size ≤ W.heap.size:=by have:=Z2.out.lt;omega
     have z3:=Z2.out.below a3
     have y0:=z3.c0
     have yf0:=z3.free 0
     have y1:=z3.c1
     have yf1:=z3.free 1
     have y2:=z3.c2
     have yf2:=z3.free 2
     have y3:=z3.c3
     have yf3:=z3.free 3
     have y4:=z3.c4
     have yf4:=z3.free 4
     have Z3:=hid z3
     have r3:=R2.out.below a3
     have b1:=r3.c1
     have bf:=r3.free 1
     have R3:=hid r3
     have O3:=hid (O2.out.trans (Only.of a3 (Nat.le_of_lt hbc)))
     have K3:Hid (KyB (W.alloc (.cells #[.int .i64 7,.bool false,.string ⟨#[]⟩,.int .i64 0,.slice none 0 0] 39)) W.heap.size (.int .i64 7) (.bool false) (.string ⟨#[]⟩) (.int .i64 0) (.slice none 0 0)):=hid (heap_alloc_new W _)
     clear z3 r3 a3
     go_wp2_with (first
      | (go_at_call 34;refine (rblank_any b t1 bad _ R3.out).mono ?_;rintro e w4 ⟨v4,a4,s4,d4,rfl,rfl,r4,l4,o4,t4⟩;have I4:=hid (II.out.step t4);have k4:=K3.out.only o4 hcb;have x0:=k4.c0;have xf0:=k4.free 0;have x1:=k4.c1;have xf1:=k4.free 1;have x2:=k4.c2;have xf2:=k4.free 2;have x3:=k4.c3;have xf3:=k4.free 3;have x4:=k4.c4;have xf4:=k4.free 4;have z4:=Z3.out.only o4 hdb;have y0:=z4.c0;have yf0:=z4.free 0;have y1:=z4.c1;have yf1:=z4.free 1;have y2:=z4.c2;have yf2:=z4.free 2;have y3:=z4.c3;have yf3:=z4.free 3;have y4:=z4.c4;have yf4:=z4.free 4;have Z4:=hid z4;have K4:=hid k4;have b4:=r4.c1;have bg:=r4.free 1;have R4:=hid r4;have L4:=hid l4;have O4:=hid (O3.out.trans o4);clear r4 l4 o4 t4 k4 z4)
      | (go_at_call 78;refine (rset_any b s4 d4 _ R4.out).mono ?_;rintro e w5 ⟨v5,x5,s5,d5,rfl,n5,r5,l5,o5,t5⟩;obtain ⟨A5,m5,rfl,-,-⟩:=n5.full;have hd4:w.heap.size + 1 ≤ w4.heap.size:=Z4.out.lt;have hc4:W.heap.size + 1 ≤ w4.heap.size:=K4.out.lt;have I5:=hid (Inv.map (show Inv bad R d4 ((Im.set s4).map fun r=>(({ kind:=7,set:=r.1 }:Ky),r.2)) from I4.out) t5);have k5:=K4.out.only o5 hcb;have x0:=k5.c0;have xf0:=k5.free 0;have x1:=k5.c1;have xf1:=k5.free 1;have x2:=k5.c2;have xf2:=k5.free 2;have x3:=k5.c3;have xf3:=k5.free 3;have x4:=k5.c4;have xf4:=k5.free 4;have z5:=(Z4.out.only o5 hdb).far hdc (j:=4) (.slice A5 x5.length m5);have y0:=z5.c0;have yf0:=z5.free 0;have y1:=z5.c1;have yf1:=z5.free 1;have y2:=z5.c2;have yf2:=z5.free 2;have y3:=z5.c3;have yf3:=z5.free 3;have y4:=z5.c4;have yf4:=z5.free 4;have N5:=hid (n5.stays ((setStays w5 W.heap.size 4 (.slice A5 x5.length m5)).mono hc4));have R5:=hid (r5.far hbc (j:=4) (.slice A5 x5.length m5));have L5:=hid l5;have O5:=hid ((O4.out.trans o5).setNew hblt hwc (j:=4) (.slice A5 x5.length m5));have kk:=k5.set4 (.slice A5 x5.length m5);have u0:=kk.c0;have uf0:=kk.free 0;have u1:=kk.c1;have uf1:=kk.free 1;have u2:=kk.c2;have uf2:=kk.free 2;have u3:=kk.c3;have uf3:=kk.free 3;have u4:=kk.c4;have uf4:=kk.free 4;clear r5 l5 o5 t5 k5 kk z5 n5))
     refine bodyPost_ret (v:=.agg #[.int .i64 7,.bool false,.string (str []),.int .i64 0,.slice A5 x5.length m5]) (by first | (simp [results,Tryz.results81,go_sem,y0,y1,y2,y3,y4];done) | (simp [results,Tryz.results81,go_sem,y0,y1,y2,y3,y4];rfl)) rfl ?_
     exact ⟨_,{ kind:=7,set:=x5 },s5,d5,rfl,⟨_,rfl,((((((N5.out.stays ((setStays _ _ _ _).mono hd4)).stays ((setStays _ _ _ _).mono hd4)).stays ((setStays _ _ _ _).mono hd4)).stays ((setStays _ _ _ _).mono hd4)).stays ((setStays _ _ _ _).mono hd4)).mono (Nat.le_of_lt hd4))⟩,(((((R5.out.far hblt _).far hblt _).far hblt _).far hblt _).far hblt _),(by have:=L5.out;have:=L4.out;omega),(((((O5.out.setNew hblt (Nat.le_refl _) _).setNew hblt (Nat.le_refl _) _).setNew hblt (Nat.le_refl _) _).setNew hblt (Nat.le_refl _) _).setNew hblt (Nat.le_refl _) _),I5.out.out⟩
set_option maxHeartbeats 16000000 in
theorem rkey_deep (dp:Int) (b:Nat) (s:Bt) (bad:Bool) (w:World) (h:RtT w b s bad) (hh:headB s = false) (wd t1 nm:Bt) (un:Bool) (hw:Im.word s = (wd,t1)) (htk:takes [85,78] wd = (un,nm)) (hq:flagAt nm = none) (l0:(wd == [65,76,76]) = false) (l1:(wd == [70,82,79,77]) = false) (l2:(wd == [83,85,66,74,69,67,84]) = false) (l3:(wd == [84,69,88,84]) = false) (l4:(wd == [76,65,82,71,69,82]) = false) (l5:(wd == [83,77,65,76,76,69,82]) = false) (l6:(wd == [85,73,68]) = false) (l7:(wd == [78,79,84]) = true) (hdp:8 ≤ dp) (R:Option (Ky × Bt)) (hR:R = none) :
  Calls Tryz.prog 81 #[.pointer (some ⟨b,0,none⟩),.int .i64 dp] w fun e w'=>Goes b w s bad (vKey w.heap.size) R e w':=by
 have HQ:=hid hq
 have HT:=hid htk
 have hblt:=h.lt
 have hdb:w.heap.size ≠ b:=by omega
 have a1:Below w.heap.size w (w.alloc (.cells #[.int .i64 0,.bool false,.string ⟨#[]⟩,.int .i64 0,.slice none 0 0] 39)):=(Below.refl _ _).alloc (Nat.le_refl _) _
 have R1:=hid (h.below a1)
 have O1:=hid (Only.of a1 (Nat.le_of_lt hblt))
 have Z1:Hid (KyB (w.alloc (.cells #[.int .i64 0,.bool false,.string ⟨#[]⟩,.int .i64 0,.slice none 0 0] 39)) w.heap.size (.int .i64 0) (.bool false) (.string ⟨#[]⟩) (.int .i64 0) (.slice none 0 0)):=hid (heap_alloc_new w _)
 have II:=hid (((Inv.start bad R).to fun _=>hR).to (K':=(signR 32 t1).bind fun _=>(none:Option (Ky × Bt))) fun _=>by cases signR 32 t1 <;> rfl)
 have hdd:decide (dp ≥ 8) = true:=decide_eq_true hdp
 have hdd2:decide (8 ≤ dp) = true:=decide_eq_true hdp
 have hwd:=fun W hW=>rword_any b s bad W hW
 have hle:=word_le s
 rw [hw] at hwd hle
 dsimp only at hwd hle
 clear hR h a1 hw
 go_enter Tryz.func81,Tryz.ntmps81
 go_upto_region 1 with fail
 go_cut [30] from 9 to 29 (fun v30 wx=>v30 = .bool false∧wx = (w.alloc (.cells #[.int .i64 0,.bool false,.string ⟨#[]⟩,.int .i64 0,.slice none 0 0] 39)))
 case first =>
  have hc0:=R1.out.c0
  rcases s with _ | ⟨c,s'⟩
  · go_wp2_with fail
    go_meet
    exact ⟨rfl,rfl⟩
  · have hix:∀ h:0 < (str (c :: s')).size,(str (c :: s'))[0] = c:=fun h=>rfl
    have hz:=str_size (c :: s')
    have hdg:=fun W=>rdigit_any c W
    have h42:((c.toNat:Int) == 42) = decide (c = 42):=byte_eq2 42 c
    have hh2:(isDg c || decide (c = 42)) = false:=hh
    obtain ⟨D,hD⟩:∃ D,isDg c = D:=⟨_,rfl⟩
    obtain ⟨E,hE⟩:∃ E,decide (c = 42) = E:=⟨_,rfl⟩
    rw [hD] at hdg hh2
    rw [hE] at h42 hh2
    clear hD hE hh
    have DG:=hid hdg
    clear hdg
    cases D <;> cases E
    · go_wp2_with (go_at_call 38;refine (DG.out _).mono ?_;rintro e w9 ⟨rfl,rfl⟩)
      go_meet
      exact ⟨rfl,rfl⟩
    all_goals cases hh2
 case rest =>
  obtain ⟨rfl,rfl⟩:=hcut
  clear htk hq
  go_wp2_with (go_at_call 32;refine (hwd _ R1.out).mono ?_;rintro e w2 ⟨rfl,r2,o2⟩;have a2:=(Below.refl w2.heap.size w2).alloc (Nat.le_refl _) (.cells #[.string ⟨#[83,69,69,78]⟩,.string ⟨#[65,78,83,87,69,82,69,68]⟩,.string ⟨#[70,76,65,71,71,69,68]⟩,.string ⟨#[68,69,76,69,84,69,68]⟩,.string ⟨#[68,82,65,70,84]⟩] 9);have hnl:=names_lit w2;have hgd:w2.heap.size ≠ w.heap.size:=(by have:=o2.size;simp at this;omega);have R2:=hid (r2.below a2);have O2:=hid (O1.out.trans (o2.trans (Only.of a2 (Nat.le_of_lt r2.lt))));have Z2:=hid ((Z1.out.only o2 hdb).below a2);clear r2 o2 a2)
  obtain ⟨W,hW⟩:∃ W,W = w2.alloc (.cells #[.string ⟨#[83,69,69,78]⟩,.string ⟨#[65,78,83,87,69,82,69,68]⟩,.string ⟨#[70,76,65,71,71,69,68]⟩,.string ⟨#[68,69,76,69,84,69,68]⟩,.string ⟨#[68,82,65,70,84]⟩] 9):=⟨_,rfl⟩
  rw [← hW] at hnl R2 O2 Z2
  rw [← hW]
  clear hW
  have HN:=hid hnl
  clear hnl
  go_loop [7] (fun v7=>∃ j:Nat,j ≤ 5∧v7 = .int .i64 j) (fun v7=>5 - (intOf v7).toNat)
  case atStart=>exact ⟨0,Nat.zero_le _,rfl⟩
  case round =>
   obtain ⟨j,hj,rfl⟩:=hrel
   by_cases hj5:j < 5
   · obtain ⟨y,hy⟩:∃ y,namesG[j]? = some y:=⟨_,List.getElem?_eq_getElem (by simp [namesG];omega)⟩
     have hun:=namesG_un y (List.mem_of_getElem? hy)
     have hnw:=names_word HT.out hun
     have x1:=HN.out j y hy
     have hcat:(⟨#[85,78]⟩:ByteArray) ++ str y = str (85 :: 78 :: y):=by rw [show (⟨#[85,78]⟩:ByteArray) = str [85,78] from rfl,str_append];rfl
     have hyl : y.length ≤ 100 := by have h:∀ z ∈ namesG,z.length ≤ 100:=by decide
                                     exact h y (List.mem_of_getElem? hy)
     have i0:(0:Int) ≤ (j:Int):=by omega
     have i1:(j:Int) < 5:=by omega
     have hne:nm ≠ y:=fun e=>by
      have h2:=(flag_names nm j).2 (by rw [e];exact hy)
      rw [HQ.out] at h2
      cases h2
     have e1:(wd == y) = false:=beq_eq_false_iff_ne.2 fun h=>hne (hnw.1.1 h).2
     have e2:(wd == 85 :: 78 :: y) = false:=beq_eq_false_iff_ne.2 fun h=>hne (hnw.2.1 h).2
     clear hne hnw hy hun
     go_wp2_with fail
     go_round
     case rel=>exact ⟨j + 1,by omega,by go_num⟩
     case measure=>simp [intOf];omega
   · obtain rfl:j = 5:=by omega
     clear hj hj5
     have a3:=(Below.refl W.heap.size W).alloc (Nat.le_refl _) (.cells #[.int .i64 0,.bool false,.string ⟨#[]⟩,.int .i64 0,.slice none 0 0] 39)
     have hbc:b < W.heap.size:=R2.out.lt
     have hcb:W.heap.size ≠ b:=by omega
     have hdc:w.heap.size ≠ W.heap.size:=by have:=Z2.out.lt;omega
     have hwc:w.heap.size ≤ W.heap.size:=by have:=Z2.out.lt;omega
     have z3:=Z2.out.below a3
     have y0:=z3.c0
     have yf0:=z3.free 0
     have y1:=z3.c1
     have yf1:=z3.free 1
     have y2:=z3.c2
     have yf2:=z3.free 2
     have y3:=z3.c3
     have yf3:=z3.free 3
     have y4:=z3.c4
     have yf4:=z3.free 4
     have Z3:=hid z3
     have r3:=R2.out.below a3
     have b1:=r3.c1
     have bf:=r3.free 1
     have R3:=hid r3
     have O3:=hid (O2.out.trans (Only.of a3 (Nat.le_of_lt hbc)))
     have K3:Hid (KyB (W.alloc (.cells #[.int .i64 0,.bool false,.string ⟨#[]⟩,.int .i64 0,.slice none 0 0] 39)) W.heap.size (.int .i64 0) (.bool false) (.string ⟨#[]⟩) (.int .i64 0) (.slice none 0 0)):=hid (heap_alloc_new W _)
     clear z3 r3 a3
     go_wp2_with (first
      | (go_at_call 34;refine (rblank_any b t1 bad _ R3.out).mono ?_;rintro e w4 ⟨v4,a4,s4,d4,rfl,rfl,r4,l4,o4,t4⟩;have I4:=hid (II.out.step t4);have k4:=K3.out.only o4 hcb;have x0:=k4.c0;have xf0:=k4.free 0;have x1:=k4.c1;have xf1:=k4.free 1;have x2:=k4.c2;have xf2:=k4.free 2;have x3:=k4.c3;have xf3:=k4.free 3;have x4:=k4.c4;have xf4:=k4.free 4;have z4:=Z3.out.only o4 hdb;have y0:=z4.c0;have yf0:=z4.free 0;have y1:=z4.c1;have yf1:=z4.free 1;have y2:=z4.c2;have yf2:=z4.free 2;have y3:=z4.c3;have yf3:=z4.free 3;have y4:=z4.c4;have yf4:=z4.free 4;have Z4:=hid z4;have K4:=hid k4;have b4:=r4.c1;have bg:=r4.free 1;have R4:=hid r4;have L4:=hid l4;have O4:=hid (O3.out.trans o4);have zz:=Z4.out.far hdb (j:=1) (.bool true);have q0:=zz.c0;have qf0:=zz.free 0;have q1:=zz.c1;have qf1:=zz.free 1;have q2:=zz.c2;have qf2:=zz.free 2;have q3:=zz.c3;have qf3:=zz.free 3;have q4:=zz.c4;have qf4:=zz.free 4;have kx:=K4.out.far hcb (j:=1) (.bool true);have p0:=kx.c0;have pf0:=kx.free 0;have p1:=kx.c1;have pf1:=kx.free 1;have p2:=kx.c2;have pf2:=kx.free 2;have p3:=kx.c3;have pf3:=kx.free 3;have p4:=kx.c4;have pf4:=kx.free 4;clear r4 l4 o4 t4 k4 z4 zz kx))
     refine bodyPost_ret (v:=.agg #[.int .i64 0,.bool false,.string (str []),.int .i64 0,.slice none 0 0]) (by first | (simp [results,Tryz.results81,go_sem,q0,q1,q2,q3,q4];done) | (simp [results,Tryz.results81,go_sem,q0,q1,q2,q3,q4];rfl)) rfl ?_
     exact ⟨_,{},s4,true,rfl,⟨_,rfl,Sq.RBuf.nil (by have:=O4.out.size;simpa [World.setCell] using this)⟩,((((((R4.out.set1 true).far hblt _).far hblt _).far hblt _).far hblt _).far hblt _),Nat.le_trans L4.out hle,((((((O4.out.trans (Only.set _ _ _ _)).setNew hblt (Nat.le_refl _) _).setNew hblt (Nat.le_refl _) _).setNew hblt (Nat.le_refl _) _).setNew hblt (Nat.le_refl _) _).setNew hblt (Nat.le_refl _) _),(Inv.fault I4.out).out⟩
set_option maxHeartbeats 16000000 in
theorem rkey_none (dp:Int) (b:Nat) (s:Bt) (bad:Bool) (w:World) (h:RtT w b s bad) (hh:headB s = false) (wd t1 nm:Bt) (un:Bool) (hw:Im.word s = (wd,t1)) (htk:takes [85,78] wd = (un,nm)) (hq:flagAt nm = none) (l0:(wd == [65,76,76]) = false) (l1:(wd == [70,82,79,77]) = false) (l2:(wd == [83,85,66,74,69,67,84]) = false) (l3:(wd == [84,69,88,84]) = false) (l4:(wd == [76,65,82,71,69,82]) = false) (l5:(wd == [83,77,65,76,76,69,82]) = false) (l6:(wd == [85,73,68]) = false) (l7:(wd == [78,79,84]) = false) (R:Option (Ky × Bt)) (hR:R = none) :
  Calls Tryz.prog 81 #[.pointer (some ⟨b,0,none⟩),.int .i64 dp] w fun e w'=>Goes b w s bad (vKey w.heap.size) R e w':=by
 have HQ:=hid hq
 have HT:=hid htk
 have hblt:=h.lt
 have hdb:w.heap.size ≠ b:=by omega
 have a1:Below w.heap.size w (w.alloc (.cells #[.int .i64 0,.bool false,.string ⟨#[]⟩,.int .i64 0,.slice none 0 0] 39)):=(Below.refl _ _).alloc (Nat.le_refl _) _
 have R1:=hid (h.below a1)
 have O1:=hid (Only.of a1 (Nat.le_of_lt hblt))
 have Z1:Hid (KyB (w.alloc (.cells #[.int .i64 0,.bool false,.string ⟨#[]⟩,.int .i64 0,.slice none 0 0] 39)) w.heap.size (.int .i64 0) (.bool false) (.string ⟨#[]⟩) (.int .i64 0) (.slice none 0 0)):=hid (heap_alloc_new w _)
 have II:=hid ((Inv.start bad R).to fun _=>hR)
 have hwd:=fun W hW=>rword_any b s bad W hW
 have hle:=word_le s
 rw [hw] at hwd hle
 dsimp only at hwd hle
 clear hR h a1 hw
 go_enter Tryz.func81,Tryz.ntmps81
 go_upto_region 1 with fail
 go_cut [30] from 9 to 29 (fun v30 wx=>v30 = .bool false∧wx = (w.alloc (.cells #[.int .i64 0,.bool false,.string ⟨#[]⟩,.int .i64 0,.slice none 0 0] 39)))
 case first =>
  have hc0:=R1.out.c0
  rcases s with _ | ⟨c,s'⟩
  · go_wp2_with fail
    go_meet
    exact ⟨rfl,rfl⟩
  · have hix:∀ h:0 < (str (c :: s')).size,(str (c :: s'))[0] = c:=fun h=>rfl
    have hz:=str_size (c :: s')
    have hdg:=fun W=>rdigit_any c W
    have h42:((c.toNat:Int) == 42) = decide (c = 42):=byte_eq2 42 c
    have hh2:(isDg c || decide (c = 42)) = false:=hh
    obtain ⟨D,hD⟩:∃ D,isDg c = D:=⟨_,rfl⟩
    obtain ⟨E,hE⟩:∃ E,decide (c = 42) = E:=⟨_,rfl⟩
    rw [hD] at hdg hh2
    rw [hE] at h42 hh2
    clear hD hE hh
    have DG:=hid hdg
    clear hdg
    cases D <;> cases E
    · go_wp2_with (go_at_call 38;refine (DG.out _).mono ?_;rintro e w9 ⟨rfl,rfl⟩)
      go_meet
      exact ⟨rfl,rfl⟩
    all_goals cases hh2
 case rest =>
  obtain ⟨rfl,rfl⟩:=hcut
  clear htk hq
  go_wp2_with (go_at_call 32;refine (hwd _ R1.out).mono ?_;rintro e w2 ⟨rfl,r2,o2⟩;have a2:=(Below.refl w2.heap.size w2).alloc (Nat.le_refl _) (.cells #[.string ⟨#[83,69,69,78]⟩,.string ⟨#[65,78,83,87,69,82,69,68]⟩,.string ⟨#[70,76,65,71,71,69,68]⟩,.string ⟨#[68,69,76,69,84,69,68]⟩,.string ⟨#[68,82,65,70,84]⟩] 9);have hnl:=names_lit w2;have hgd:w2.heap.size ≠ w.heap.size:=(by have:=o2.size;simp at this;omega);have R2:=hid (r2.below a2);have O2:=hid (O1.out.trans (o2.trans (Only.of a2 (Nat.le_of_lt r2.lt))));have Z2:=hid ((Z1.out.only o2 hdb).below a2);clear r2 o2 a2)
  obtain ⟨W,hW⟩:∃ W,W = w2.alloc (.cells #[.string ⟨#[83,69,69,78]⟩,.string ⟨#[65,78,83,87,69,82,69,68]⟩,.string ⟨#[70,76,65,71,71,69,68]⟩,.string ⟨#[68,69,76,69,84,69,68]⟩,.string ⟨#[68,82,65,70,84]⟩] 9):=⟨_,rfl⟩
  rw [← hW] at hnl R2 O2 Z2
  rw [← hW]
  clear hW
  have HN:=hid hnl
  clear hnl
  go_loop [7] (fun v7=>∃ j:Nat,j ≤ 5∧v7 = .int .i64 j) (fun v7=>5 - (intOf v7).toNat)
  case atStart=>exact ⟨0,Nat.zero_le _,rfl⟩
  case round =>
   obtain ⟨j,hj,rfl⟩:=hrel
   by_cases hj5:j < 5
   · obtain ⟨y,hy⟩:∃ y,namesG[j]? = some y:=⟨_,List.getElem?_eq_getElem (by simp [namesG];omega)⟩
     have hun:=namesG_un y (List.mem_of_getElem? hy)
     have hnw:=names_word HT.out hun
     have x1:=HN.out j y hy
     have hcat:(⟨#[85,78]⟩:ByteArray) ++ str y = str (85 :: 78 :: y):=by rw [show (⟨#[85,78]⟩:ByteArray) = str [85,78] from rfl,str_append];rfl
     have hyl : y.length ≤ 100 := by have h:∀ z ∈ namesG,z.length ≤ 100:=by decide
                                     exact h y (List.mem_of_getElem? hy)
     have i0:(0:Int) ≤ (j:Int):=by omega
     have i1:(j:Int) < 5:=by omega
     have hne:nm ≠ y:=fun e=>by
      have h2:=(flag_names nm j).2 (by rw [e];exact hy)
      rw [HQ.out] at h2
      cases h2
     have e1:(wd == y) = false:=beq_eq_false_iff_ne.2 fun h=>hne (hnw.1.1 h).2
     have e2:(wd == 85 :: 78 :: y) = false:=beq_eq_false_iff_ne.2 fun h=>hne (hnw.2.1 h).2
     clear hne hnw hy hun
     go_wp2_with fail
     go_round
     case rel=>exact ⟨j + 1,by omega,by go_num⟩
     case measure=>simp [intOf];omega
   · obtain rfl:j = 5:=by omega
     clear hj hj5
     have a3:=(Below.refl W.heap.size W).alloc (Nat.le_refl _) (.cells #[.int .i64 0,.bool false,.string ⟨#[]⟩,.int .i64 0,.slice none 0 0] 39)
     have hbc:b < W.heap.size:=R2.out.lt
     have hcb:W.heap.size ≠ b:=by omega
     have hdc:w.heap.size ≠ W.heap.size:=by have:=Z2.out.lt;omega
     have hwc:w.heap.size ≤ W.heap.size:=by have:=Z2.out.lt;omega
     have z3:=Z2.out.below a3
     have y0:=z3.c0
     have yf0:=z3.free 0
     have y1:=z3.c1
     have yf1:=z3.free 1
     have y2:=z3.c2
     have yf2:=z3.free 2
     have y3:=z3.c3
     have yf3:=z3.free 3
     have y4:=z3.c4
     have yf4:=z3.free 4
     have Z3:=hid z3
     have r3:=R2.out.below a3
     have b1:=r3.c1
     have bf:=r3.free 1
     have R3:=hid r3
     have O3:=hid (O2.out.trans (Only.of a3 (Nat.le_of_lt hbc)))
     have K3:Hid (KyB (W.alloc (.cells #[.int .i64 0,.bool false,.string ⟨#[]⟩,.int .i64 0,.slice none 0 0] 39)) W.heap.size (.int .i64 0) (.bool false) (.string ⟨#[]⟩) (.int .i64 0) (.slice none 0 0)):=hid (heap_alloc_new W _)
     clear z3 r3 a3
     have ab:=(Below.refl (W.setCell ⟨b,1,none⟩ (.bool true)).heap.size (W.setCell ⟨b,1,none⟩ (.bool true))).alloc (Nat.le_refl _) (.cells #[.int .i64 0,.bool false,.string ⟨#[]⟩,.int .i64 0,.slice none 0 0] 39)
     have Z4:=hid ((Z2.out.far hdb (j:=1) (.bool true)).below ab)
     have K4:Hid (KyB ((W.setCell ⟨b,1,none⟩ (.bool true)).alloc (.cells #[.int .i64 0,.bool false,.string ⟨#[]⟩,.int .i64 0,.slice none 0 0] 39)) W.heap.size (.int .i64 0) (.bool false) (.string ⟨#[]⟩) (.int .i64 0) (.slice none 0 0)):=hid (by unfold KyB;have h:=heap_alloc_new (W.setCell ⟨b,1,none⟩ (.bool true)) (.cells #[.int .i64 0,.bool false,.string ⟨#[]⟩,.int .i64 0,.slice none 0 0] 39);rwa [show (W.setCell ⟨b,1,none⟩ (.bool true)).heap.size = W.heap.size from by simp] at h)
     have R4:=hid ((R2.out.set1 true).below ab)
     have O4:=hid ((O2.out.trans (Only.set W b 1 (.bool true))).trans (Only.of ab (Nat.le_of_lt (R2.out.set1 true).lt)))
     clear ab
     go_upto_region 13 with fail
     obtain ⟨W4,hW4⟩:∃ X,X = (W.setCell ⟨b,1,none⟩ (.bool true)).alloc (.cells #[.int .i64 0,.bool false,.string ⟨#[]⟩,.int .i64 0,.slice none 0 0] 39):=⟨_,rfl⟩
     rw [← hW4] at Z4 K4 R4 O4
     rw [← hW4]
     clear hW4
     have zz:=Z4.out
     have kx:=K4.out
     have q0:=zz.c0
     have qf0:=zz.free 0
     have q1:=zz.c1
     have qf1:=zz.free 1
     have q2:=zz.c2
     have qf2:=zz.free 2
     have q3:=zz.c3
     have qf3:=zz.free 3
     have q4:=zz.c4
     have qf4:=zz.free 4
     have p0:=kx.c0
     have pf0:=kx.free 0
     have p1:=kx.c1
     have pf1:=kx.free 1
     have p2:=kx.c2
     have pf2:=kx.free 2
     have p3:=kx.c3
     have pf3:=kx.free 3
     have p4:=kx.c4
     have pf4:=kx.free 4
     clear zz kx
     go_wp2_with fail
     refine bodyPost_ret (v:=.agg #[.int .i64 0,.bool false,.string (str []),.int .i64 0,.slice none 0 0]) (by first | (simp [results,Tryz.results81,go_sem,q0,q1,q2,q3,q4];done) | (simp [results,Tryz.results81,go_sem,q0,q1,q2,q3,q4];rfl)) rfl ?_
     exact ⟨_,{},t1,true,rfl,⟨_,rfl,Sq.RBuf.nil (by have:=O4.out.size;simpa [World.setCell] using this)⟩,(((((R4.out.far hblt _).far hblt _).far hblt _).far hblt _).far hblt _),hle,(((((O4.out.setNew hblt (Nat.le_refl _) _).setNew hblt (Nat.le_refl _) _).setNew hblt (Nat.le_refl _) _).setNew hblt (Nat.le_refl _) _).setNew hblt (Nat.le_refl _) _),(Inv.fault II.out).out⟩
set_option maxHeartbeats 16000000 in
theorem rkey_not (dp:Int) (b:Nat) (s:Bt) (bad:Bool) (w:World) (h:RtT w b s bad) (hh:headB s = false) (wd t1 nm:Bt) (un:Bool) (hw:Im.word s = (wd,t1)) (htk:takes [85,78] wd = (un,nm)) (hq:flagAt nm = none) (l0:(wd == [65,76,76]) = false) (l1:(wd == [70,82,79,77]) = false) (l2:(wd == [83,85,66,74,69,67,84]) = false) (l3:(wd == [84,69,88,84]) = false) (l4:(wd == [76,65,82,71,69,82]) = false) (l5:(wd == [83,77,65,76,76,69,82]) = false) (l6:(wd == [85,73,68]) = false) (l7:(wd == [78,79,84]) = true) (h0:0 ≤ dp) (hdp:dp < 8) (dq:Int) (hdq:dp + 1 = dq) (nx:Rd Ky) (ih:∀ (s:Bt) (bad:Bool) (W:World),RtT W b s bad→Calls Tryz.prog 81 #[.pointer (some ⟨b,0,none⟩),.int .i64 dq] W fun e w'=>Goes b W s bad (vKey W.heap.size) (nx s) e w') (R:Option (Ky × Bt)) (hR:R = (signR 32 t1).bind fun q=>(nx q.2).map fun r=>({ r.1 with not:=!r.1.not },r.2)) :
  Calls Tryz.prog 81 #[.pointer (some ⟨b,0,none⟩),.int .i64 dp] w fun e w'=>Goes b w s bad (vKey w.heap.size) R e w':=by
 have HQ:=hid hq
 have HT:=hid htk
 have hwr:IntKind.i64.wrap (dp + 1) = dq:=by rw [← hdq];rw [IntKind.wrap_i64];omega
 have hdd:decide (8 ≤ dp) = false:=decide_eq_false (by omega)
 have hblt:=h.lt
 have hdb:w.heap.size ≠ b:=by omega
 have a1:Below w.heap.size w (w.alloc (.cells #[.int .i64 0,.bool false,.string ⟨#[]⟩,.int .i64 0,.slice none 0 0] 39)):=(Below.refl _ _).alloc (Nat.le_refl _) _
 have R1:=hid (h.below a1)
 have O1:=hid (Only.of a1 (Nat.le_of_lt hblt))
 have Z1:Hid (KyB (w.alloc (.cells #[.int .i64 0,.bool false,.string ⟨#[]⟩,.int .i64 0,.slice none 0 0] 39)) w.heap.size (.int .i64 0) (.bool false) (.string ⟨#[]⟩) (.int .i64 0) (.slice none 0 0)):=hid (heap_alloc_new w _)
 have II:=hid ((Inv.start bad R).to fun _=>hR)
 have hwd:=fun W hW=>rword_any b s bad W hW
 have hle:=word_le s
 rw [hw] at hwd hle
 dsimp only at hwd hle
 clear hR h a1 hw
 go_enter Tryz.func81,Tryz.ntmps81
 go_upto_region 1 with fail
 go_cut [30] from 9 to 29 (fun v30 wx=>v30 = .bool false∧wx = (w.alloc (.cells #[.int .i64 0,.bool false,.string ⟨#[]⟩,.int .i64 0,.slice none 0 0] 39)))
 case first =>
  have hc0:=R1.out.c0
  rcases s with _ | ⟨c,s'⟩
  · go_wp2_with fail
    go_meet
    exact ⟨rfl,rfl⟩
  · have hix:∀ h:0 < (str (c :: s')).size,(str (c :: s'))[0] = c:=fun h=>rfl
    have hz:=str_size (c :: s')
    have hdg:=fun W=>rdigit_any c W
    have h42:((c.toNat:Int) == 42) = decide (c = 42):=byte_eq2 42 c
    have hh2:(isDg c || decide (c = 42)) = false:=hh
    obtain ⟨D,hD⟩:∃ D,isDg c = D:=⟨_,rfl⟩
    obtain ⟨E,hE⟩:∃ E,decide (c = 42) = E:=⟨_,rfl⟩
    rw [hD] at hdg hh2
    rw [hE] at h42 hh2
    clear hD hE hh
    have DG:=hid hdg
    clear hdg
    cases D <;> cases E
    · go_wp2_with (go_at_call 38;refine (DG.out _).mono ?_;rintro e w9 ⟨rfl,rfl⟩)
      go_meet
      exact ⟨rfl,rfl⟩
    all_goals cases hh2
 case rest =>
  obtain ⟨rfl,rfl⟩:=hcut
  clear htk hq
  go_wp2_with (go_at_call 32;refine (hwd _ R1.out).mono ?_;rintro e w2 ⟨rfl,r2,o2⟩;have a2:=(Below.refl w2.heap.size w2).alloc (Nat.le_refl _) (.cells #[.string ⟨#[83,69,69,78]⟩,.string ⟨#[65,78,83,87,69,82,69,68]⟩,.string ⟨#[70,76,65,71,71,69,68]⟩,.string ⟨#[68,69,76,69,84,69,68]⟩,.string ⟨#[68,82,65,70,84]⟩] 9);have hnl:=names_lit w2;have hgd:w2.heap.size ≠ w.heap.size:=(by have:=o2.size;simp at this;omega);have R2:=hid (r2.below a2);have O2:=hid (O1.out.trans (o2.trans (Only.of a2 (Nat.le_of_lt r2.lt))));have Z2:=hid ((Z1.out.only o2 hdb).below a2);clear r2 o2 a2)
  obtain ⟨W,hW⟩:∃ W,W = w2.alloc (.cells #[.string ⟨#[83,69,69,78]⟩,.string ⟨#[65,78,83,87,69,82,69,68]⟩,.string ⟨#[70,76,65,71,71,69,68]⟩,.string ⟨#[68,69,76,69,84,69,68]⟩,.string ⟨#[68,82,65,70,84]⟩] 9):=⟨_,rfl⟩
  rw [← hW] at hnl R2 O2 Z2
  rw [← hW]
  clear hW
  have HN:=hid hnl
  clear hnl
  go_loop [7] (fun v7=>∃ j:Nat,j ≤ 5∧v7 = .int .i64 j) (fun v7=>5 - (intOf v7).toNat)
  case atStart=>exact ⟨0,Nat.zero_le _,rfl⟩
  case round =>
   obtain ⟨j,hj,rfl⟩:=hrel
   by_cases hj5:j < 5
   · obtain ⟨y,hy⟩:∃ y,namesG[j]? = some y:=⟨_,List.getElem?_eq_getElem (by simp [namesG];omega)⟩
     have hun:=namesG_un y (List.mem_of_getElem? hy)
     have hnw:=names_word HT.out hun
     have x1:=HN.out j y hy
     have hcat:(⟨#[85,78]⟩:ByteArray) ++ str y = str (85 :: 78 :: y):=by rw [show (⟨#[85,78]⟩:ByteArray) = str [85,78] from rfl,str_append];rfl
     have hyl : y.length ≤ 100 := by have h:∀ z ∈ namesG,z.length ≤ 100:=by decide
                                     exact h y (List.mem_of_getElem? hy)
     have i0:(0:Int) ≤ (j:Int):=by omega
     have i1:(j:Int) < 5:=by omega
     have hne:nm ≠ y:=fun e=>by
      have h2:=(flag_names nm j).2 (by rw [e];exact hy)
      rw [HQ.out] at h2
      cases h2
     have e1:(wd == y) = false:=beq_eq_false_iff_ne.2 fun h=>hne (hnw.1.1 h).2
     have e2:(wd == 85 :: 78 :: y) = false:=beq_eq_false_iff_ne.2 fun h=>hne (hnw.2.1 h).2
     clear hne hnw hy hun
     go_wp2_with fail
     go_round
     case rel=>exact ⟨j + 1,by omega,by go_num⟩
     case measure=>simp [intOf];omega
   · obtain rfl:j = 5:=by omega
     clear hj hj5
     have a3:=(Below.refl W.heap.size W).alloc (Nat.le_refl _) (.cells #[.int .i64 0,.bool false,.string ⟨#[]⟩,.int .i64 0,.slice none 0 0] 39)
     have hbc:b < W.heap.size:=R2.out.lt
     have hcb:W.heap.size ≠ b:=by omega
     have hdc:w.heap.size ≠ W.heap.size:=by have:=Z2.out.lt;omega
     have hwc:w.heap.size ≤ W.heap.size:=by have:=Z2.out.lt;omega
     have z3:=Z2.out.below a3
     have y0:=z3.c0
     have yf0:=z3.free 0
     have y1:=z3.c1
     have yf1:=z3.free 1
     have y2:=z3.c2
     have yf2:=z3.free 2
     have y3:=z3.c3
     have yf3:=z3.free 3
     have y4:=z3.c4
     have yf4:=z3.free 4
     have Z3:=hid z3
     have r3:=R2.out.below a3
     have b1:=r3.c1
     have bf:=r3.free 1
     have R3:=hid r3
     have O3:=hid (O2.out.trans (Only.of a3 (Nat.le_of_lt hbc)))
     have K3:Hid (KyB (W.alloc (.cells #[.int .i64 0,.bool false,.string ⟨#[]⟩,.int .i64 0,.slice none 0 0] 39)) W.heap.size (.int .i64 0) (.bool false) (.string ⟨#[]⟩) (.int .i64 0) (.slice none 0 0)):=hid (heap_alloc_new W _)
     clear z3 r3 a3
     go_upto_region 36 with (first
      | (go_at_call 34;refine (rblank_any b t1 bad _ R3.out).mono ?_;rintro e w4 ⟨v4,a4,s4,d4,rfl,rfl,r4,l4,o4,t4⟩;have I4:=hid (II.out.step t4);have k4:=K3.out.only o4 hcb;have x0:=k4.c0;have xf0:=k4.free 0;have x1:=k4.c1;have xf1:=k4.free 1;have x2:=k4.c2;have xf2:=k4.free 2;have x3:=k4.c3;have xf3:=k4.free 3;have x4:=k4.c4;have xf4:=k4.free 4;have z4:=Z3.out.only o4 hdb;have y0:=z4.c0;have yf0:=z4.free 0;have y1:=z4.c1;have yf1:=z4.free 1;have y2:=z4.c2;have yf2:=z4.free 2;have y3:=z4.c3;have yf3:=z4.free 3;have y4:=z4.c4;have yf4:=z4.free 4;have Z4:=hid z4;have K4:=hid k4;have b4:=r4.c1;have bg:=r4.free 1;have R4:=hid r4;have L4:=hid l4;have O4:=hid (O3.out.trans o4);clear r4 l4 o4 t4 k4 z4 <;> cases d4)
      | (go_at_call 81;refine (ih s4 false _ R4.out).mono ?_;rintro e w5 ⟨v5,k5,s5,d5,rfl,n5,r5,l5,o5,t5⟩;obtain ⟨sv5,rfl,n5⟩:=n5;obtain ⟨A5,m5,rfl,-,-⟩:=n5.full;have hd4:w.heap.size + 1 ≤ w4.heap.size:=Z4.out.lt;have hc4:W.heap.size + 1 ≤ w4.heap.size:=K4.out.lt;have I5:=hid (Inv.map (show Inv bad R false ((nx s4).map fun r=>(({ r.1 with not:=!r.1.not }:Ky),r.2)) from I4.out) t5);have kx:=K4.out.only o5 hcb;have x0:=kx.c0;have xf0:=kx.free 0;have x1:=kx.c1;have xf1:=kx.free 1;have x2:=kx.c2;have xf2:=kx.free 2;have x3:=kx.c3;have xf3:=kx.free 3;have x4:=kx.c4;have xf4:=kx.free 4;have z5:=Z4.out.only o5 hdb;have y0:=z5.c0;have yf0:=z5.free 0;have y1:=z5.c1;have yf1:=z5.free 1;have y2:=z5.c2;have yf2:=z5.free 2;have y3:=z5.c3;have yf3:=z5.free 3;have y4:=z5.c4;have yf4:=z5.free 4;have K5:=hid kx;have Z5:=hid z5;have N5:=hid n5;have R5:=hid r5;have L5:=hid l5;have O5:=hid (O4.out.trans o5);clear r5 l5 o5 t5 kx z5 n5))
     · have k6:KyB (((((w5.setCell ⟨W.heap.size,0,none⟩ (.int .i64 k5.kind)).setCell ⟨W.heap.size,1,none⟩ (.bool k5.not)).setCell ⟨W.heap.size,2,none⟩ (.string (str k5.text))).setCell ⟨W.heap.size,3,none⟩ (.int .i64 k5.n)).setCell ⟨W.heap.size,4,none⟩ (.slice A5 k5.set.length m5)) W.heap.size (.int .i64 k5.kind) (.bool k5.not) (.string (str k5.text)) (.int .i64 k5.n) (.slice A5 k5.set.length m5):=((((K5.out.set0 _).set1 _).set2 _).set3 _).set4 _
       have z6:=(((((Z5.out.far hdc (j:=0) (.int .i64 k5.kind)).far hdc (j:=1) (.bool k5.not)).far hdc (j:=2) (.string (str k5.text))).far hdc (j:=3) (.int .i64 k5.n)).far hdc (j:=4) (.slice A5 k5.set.length m5))
       have r6:=(((((R5.out.far hbc (j:=0) (.int .i64 k5.kind)).far hbc (j:=1) (.bool k5.not)).far hbc (j:=2) (.string (str k5.text))).far hbc (j:=3) (.int .i64 k5.n)).far hbc (j:=4) (.slice A5 k5.set.length m5))
       have o6:=(((((O5.out.setNew hblt hwc (j:=0) (.int .i64 k5.kind)).setNew hblt hwc (j:=1) (.bool k5.not)).setNew hblt hwc (j:=2) (.string (str k5.text))).setNew hblt hwc (j:=3) (.int .i64 k5.n)).setNew hblt hwc (j:=4) (.slice A5 k5.set.length m5))
       have n6:=(((((N5.out.stays ((setStays _ W.heap.size 0 (.int .i64 k5.kind)).mono hc4)).stays ((setStays _ W.heap.size 1 (.bool k5.not)).mono hc4)).stays ((setStays _ W.heap.size 2 (.string (str k5.text))).mono hc4)).stays ((setStays _ W.heap.size 3 (.int .i64 k5.n)).mono hc4)).stays ((setStays _ W.heap.size 4 (.slice A5 k5.set.length m5)).mono hc4))
       obtain ⟨W6,hW6⟩:∃ X,X = (((((w5.setCell ⟨W.heap.size,0,none⟩ (.int .i64 k5.kind)).setCell ⟨W.heap.size,1,none⟩ (.bool k5.not)).setCell ⟨W.heap.size,2,none⟩ (.string (str k5.text))).setCell ⟨W.heap.size,3,none⟩ (.int .i64 k5.n)).setCell ⟨W.heap.size,4,none⟩ (.slice A5 k5.set.length m5)):=⟨_,rfl⟩
       rw [← hW6] at k6 z6 r6 o6 n6
       rw [← hW6]
       clear hW6 K5 Z5 R5 O5 N5
       have p0:=k6.c0
       have pf0:=k6.free 0
       have p1:=k6.c1
       have pf1:=k6.free 1
       have p2:=k6.c2
       have pf2:=k6.free 2
       have p3:=k6.c3
       have pf3:=k6.free 3
       have p4:=k6.c4
       have pf4:=k6.free 4
       have K6:=hid k6
       have Z6:=hid z6
       have R6:=hid r6
       have O6:=hid o6
       have N6:=hid n6
       clear k6 z6 r6 o6 n6
       go_upto_region 37 with fail
       have k7:=K6.out.set1 (.bool !k5.not)
       have z7:=Z6.out.far hdc (j:=1) (.bool !k5.not)
       have R7:=hid (R6.out.far hbc (j:=1) (.bool !k5.not))
       have O7:=hid (O6.out.setNew hblt hwc (j:=1) (.bool !k5.not))
       have N7:=hid (N6.out.stays ((setStays _ W.heap.size 1 (.bool !k5.not)).mono hc4))
       obtain ⟨W7,hW7⟩:∃ X,X = W6.setCell ⟨W.heap.size,1,none⟩ (.bool !k5.not):=⟨_,rfl⟩
       rw [← hW7] at k7 z7 R7 O7 N7
       rw [← hW7]
       clear hW7
       have g0:=k7.c0
       have gf0:=k7.free 0
       have g1:=k7.c1
       have gf1:=k7.free 1
       have g2:=k7.c2
       have gf2:=k7.free 2
       have g3:=k7.c3
       have gf3:=k7.free 3
       have g4:=k7.c4
       have gf4:=k7.free 4
       have q0:=z7.c0
       have qf0:=z7.free 0
       have q1:=z7.c1
       have qf1:=z7.free 1
       have q2:=z7.c2
       have qf2:=z7.free 2
       have q3:=z7.c3
       have qf3:=z7.free 3
       have q4:=z7.c4
       have qf4:=z7.free 4
       clear k7 z7
       go_wp2_with fail
       refine bodyPost_ret (v:=.agg #[.int .i64 k5.kind,.bool !k5.not,.string (str k5.text),.int .i64 k5.n,.slice A5 k5.set.length m5]) (by first | (simp [results,Tryz.results81,go_sem,q0,q1,q2,q3,q4];done) | (simp [results,Tryz.results81,go_sem,q0,q1,q2,q3,q4];rfl)) rfl ?_
       exact ⟨_,{ k5 with not:=!k5.not },s5,d5,rfl,⟨_,rfl,((((((N7.out.stays ((setStays _ _ _ _).mono hd4)).stays ((setStays _ _ _ _).mono hd4)).stays ((setStays _ _ _ _).mono hd4)).stays ((setStays _ _ _ _).mono hd4)).stays ((setStays _ _ _ _).mono hd4)).mono (Nat.le_of_lt hd4))⟩,(((((R7.out.far hblt _).far hblt _).far hblt _).far hblt _).far hblt _),(by have:=L5.out;have:=L4.out;omega),(((((O7.out.setNew hblt (Nat.le_refl _) _).setNew hblt (Nat.le_refl _) _).setNew hblt (Nat.le_refl _) _).setNew hblt (Nat.le_refl _) _).setNew hblt (Nat.le_refl _) _),I5.out.out⟩
     · refine bodyPost_ret (v:=.agg #[.int .i64 0,.bool false,.string (str []),.int .i64 0,.slice none 0 0]) (by first | (simp [results,Tryz.results81,go_sem,y0,y1,y2,y3,y4];done) | (simp [results,Tryz.results81,go_sem,y0,y1,y2,y3,y4];rfl)) rfl ?_
       exact ⟨_,{},s4,true,rfl,⟨_,rfl,Sq.RBuf.nil (by have:=O4.out.size;simpa [World.setCell] using this)⟩,(((((R4.out.far hblt _).far hblt _).far hblt _).far hblt _).far hblt _),Nat.le_trans L4.out hle,(((((O4.out.setNew hblt (Nat.le_refl _) _).setNew hblt (Nat.le_refl _) _).setNew hblt (Nat.le_refl _) _).setNew hblt (Nat.le_refl _) _).setNew hblt (Nat.le_refl _) _),(I4.out.to (K':=some (({}:Ky),s4)) fun h=>by cases h).out⟩
end Go.Proofs.YtfdmdmahddjjmaaGreatDoor
