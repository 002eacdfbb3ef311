/-
  Joined texts: RfM RfN RfO.
-/
import Derived.Test.YtfdmdmahddjjmaaGreatDoorKRfL
import Derived.Test.YtfdmdmahddjjmaaGreatDoorKRfH
import Derived.Test.YtfdmdmahddjjmaaGreatDoorPkIm3
set_option linter.unusedVariables false
set_option linter.unusedSimpArgs false
set_option maxRecDepth 100000
namespace Go.Proofs.YtfdmdmahddjjmaaGreatDoor
open Go.RowKit Own Im
attribute [local go_sem] str_toList str_size
theorem keyW_no {nx:Option (Rd Ky)} {wd t1 nm:Bt} {un:Bool} (htk:takes [85,78] wd = (un,nm)) (hq:flagAt nm = none):keyW nx wd t1 =
  if wd = [65,76,76] then some ({ kind:=1 },t1) else
  if wd = [78,79,84] then (match nx with
   | none=>none
   | some f=>(sign [32] t1).bind fun s=>(f s).map fun q=>({ q.1 with not:=!q.1.not },q.2)) else
  if wd = [85,73,68] then (sign [32] t1).bind fun s=>(Im.set s).map fun q=>({ kind:=7,set:=q.1 },q.2) else
  if 0 < kindOf textKinds wd then (then_ t1).map fun q=>({ kind:=kindOf textKinds wd,text:=q.1 },q.2) else
  if 0 < kindOf sizeKinds wd then (sign [32] t1).bind fun t=>(number 0 most t).map fun q=>({ kind:=kindOf sizeKinds wd,n:=q.1 },q.2) else none:=by
 unfold keyW
 rw [htk]
 dsimp only
 rw [hq]
 rfl
theorem then_map {β:Type} (t1:Bt) (g:Bt × Bt→β):(then_ t1).map g = (signR 32 t1).bind fun q=>(Im.text atomB q.2).map g:=by
 unfold then_ signR
 cases sign [32] t1 <;> rfl
theorem kind_none {wd:Bt} (h1:wd ≠ [70,82,79,77]) (h2:wd ≠ [83,85,66,74,69,67,84]) (h3:wd ≠ [84,69,88,84]):kindOf textKinds wd = 0:=by
 unfold kindOf textKinds
 simp [List.find?,Ne.symm h1,Ne.symm h2,Ne.symm h3,beq_eq_false_iff_ne.2 (Ne.symm h1),beq_eq_false_iff_ne.2 (Ne.symm h2),beq_eq_false_iff_ne.2 (Ne.symm h3)]
theorem size_none {wd:Bt} (h1:wd ≠ [76,65,82,71,69,82]) (h2:wd ≠ [83,77,65,76,76,69,82]):kindOf sizeKinds wd = 0:=by
 unfold kindOf sizeKinds
 simp [List.find?,Ne.symm h1,Ne.symm h2,beq_eq_false_iff_ne.2 (Ne.symm h1),beq_eq_false_iff_ne.2 (Ne.symm h2)]
theorem rkey_ways (dp:Int) (b:Nat) (s:Bt) (bad:Bool) (w:World) (h:RtT w b s bad) (nx:Option (Rd Ky)) (h0:0 ≤ dp) (hn:nx = none→8 ≤ dp) (hs:∀ f,nx = some f→dp < 8∧∀ (s:Bt) (bad:Bool) (W:World),RtT W b s bad→Calls Tryz.prog 81 #[.pointer (some ⟨b,0,none⟩),.int .i64 (dp + 1)] W fun e w'=>Goes b W s bad (vKey W.heap.size) (f s) e w') :
  Calls Tryz.prog 81 #[.pointer (some ⟨b,0,none⟩),.int .i64 dp] w fun e w'=>Goes b w s bad (vKey w.heap.size) (if headB s = true then keyS s else keyW nx (Im.word s).1 (Im.word s).2) e w':=by
 cases hh:headB s with
 | true =>
  rw [if_pos rfl]
  exact rkey_set dp b s bad w h hh _ rfl
 | false =>
  rw [if_neg (by simp)]
  obtain ⟨wd,t1,hw⟩:∃ wd t1,Im.word s = (wd,t1):=⟨_,_,rfl⟩
  rw [hw]
  obtain ⟨un,nm,htk⟩:∃ un nm,takes [85,78] wd = (un,nm):=⟨_,_,rfl⟩
  cases hq:flagAt nm with
  | some i=>exact rkey_flag dp b s bad w h hh wd t1 nm un hw htk i hq _ (by unfold keyW;rw [htk];dsimp only;rw [hq])
  | none =>
   rw [keyW_no htk hq]
   dsimp only
   by_cases e0:wd = [65,76,76]
   · subst e0
     exact rkey_all dp b s bad w h hh _ t1 nm un hw htk hq rfl rfl rfl rfl rfl rfl rfl rfl _ rfl
   by_cases e1:wd = [70,82,79,77]
   · subst e1
     exact rkey_from dp b s bad w h hh _ t1 nm un hw htk hq rfl rfl rfl rfl rfl rfl rfl rfl _ (then_map _ _)
   by_cases e2:wd = [83,85,66,74,69,67,84]
   · subst e2
     exact rkey_subject dp b s bad w h hh _ t1 nm un hw htk hq rfl rfl rfl rfl rfl rfl rfl rfl _ (then_map _ _)
   by_cases e3:wd = [84,69,88,84]
   · subst e3
     exact rkey_text dp b s bad w h hh _ t1 nm un hw htk hq rfl rfl rfl rfl rfl rfl rfl rfl _ (then_map _ _)
   by_cases e4:wd = [76,65,82,71,69,82]
   · subst e4
     exact rkey_larger dp b s bad w h hh _ t1 nm un hw htk hq rfl rfl rfl rfl rfl rfl rfl rfl _ (by rw [signR_bind];rfl)
   by_cases e5:wd = [83,77,65,76,76,69,82]
   · subst e5
     exact rkey_smaller dp b s bad w h hh _ t1 nm un hw htk hq rfl rfl rfl rfl rfl rfl rfl rfl _ (by rw [signR_bind];rfl)
   by_cases e6:wd = [85,73,68]
   · subst e6
     exact rkey_uid dp b s bad w h hh _ t1 nm un hw htk hq rfl rfl rfl rfl rfl rfl rfl rfl _ (by rw [signR_bind];rfl)
   by_cases e7:wd = [78,79,84]
   · subst e7
     cases nx with
     | none=>exact rkey_deep dp b s bad w h hh _ t1 nm un hw htk hq rfl rfl rfl rfl rfl rfl rfl rfl (hn rfl) _ rfl
     | some f=>exact rkey_not dp b s bad w h hh _ t1 nm un hw htk hq rfl rfl rfl rfl rfl rfl rfl rfl h0 (hs f rfl).1 (dp + 1) rfl f (hs f rfl).2 _ (by rw [signR_bind];rfl)
   rw [if_neg e0,if_neg e7,if_neg e6,kind_none e1 e2 e3,size_none e4 e5,if_neg (by decide),if_neg (by decide)]
   exact rkey_none dp b s bad w h hh _ t1 nm un hw htk hq (beq_eq_false_iff_ne.2 e0) (beq_eq_false_iff_ne.2 e1) (beq_eq_false_iff_ne.2 e2) (beq_eq_false_iff_ne.2 e3) (beq_eq_false_iff_ne.2 e4) (beq_eq_false_iff_ne.2 e5) (beq_eq_false_iff_ne.2 e6) (beq_eq_false_iff_ne.2 e7) _ rfl
theorem rkey_any (d:Nat):d ≤ 8→∀ (b:Nat) (s:Bt) (bad:Bool) (w:World),RtT w b s bad→Calls Tryz.prog 81 #[.pointer (some ⟨b,0,none⟩),.int .i64 (8 - (d:Int))] w fun e w'=>Goes b w s bad (vKey w.heap.size) (Im.key d s) e w':=by
 induction d with
 | zero =>
  intro _ b s bad w h
  rw [key_eq0]
  exact rkey_ways (8 - ((0:Nat):Int)) b s bad w h none (by decide) (fun _=>by decide) (fun f h=>by cases h)
 | succ d ih =>
  intro hd b s bad w h
  rw [key_eq]
  refine rkey_ways (8 - ((d + 1:Nat):Int)) b s bad w h (some (Im.key d)) (by omega) (fun h=>by cases h) (fun f h=>?_)
  cases h
  refine ⟨by omega,fun s bad W hW=>?_⟩
  have:=ih (by omega) b s bad W hW
  rw [show (8:Int) - ((d + 1:Nat):Int) + 1 = 8 - (d:Int) by omega]
  exact this
theorem rkey_top (b:Nat) (s:Bt) (bad:Bool) (w:World) (h:RtT w b s bad):Calls Tryz.prog 81 #[.pointer (some ⟨b,0,none⟩),.int .i64 0] w fun e w'=>Goes b w s bad (vKey w.heap.size) (Im.key 8 s) e w':=rkey_any 8 (Nat.le_refl _) b s bad w h
end Go.Proofs.YtfdmdmahddjjmaaGreatDoor
namespace Go.Proofs.YtfdmdmahddjjmaaGreatDoor
open Go.RowKit Own Im
attribute [local go_sem] str_toList str_size
theorem prefix_pos {c:UInt8} {t:Bt} (h:Lib.hasPrefix t [c] = true):1 ≤ t.length:=by
 cases t with
 | nil=>rw [prefix_nil] at h;cases h
 | cons d t=>simp
section
variable {b c:Nat} {w w':World} {s:Bt} {bad:Bool}
theorem Only.twoUp (h:Only b w w') (hcb:c < b):Two c b w w':=⟨h.low.mono (Nat.le_of_lt hcb),fun k h1 h2 h3=>by
 rcases Nat.lt_or_ge k b with h4 | h4
 · exact h.low.block k h4
 · exact h.high k (by omega) h3⟩
theorem Two.near (w:World) (hcb:c < b) (j:Nat) (v:Value):Two c b w (w.setCell ⟨c,j,none⟩ v):=(Only.set w c j v).two
theorem GoodI.two (h:GoodI c w) (k:Two c b w w'):GoodI c w':=h.below k.low (Nat.le_refl _)
theorem GoodI.up (h:GoodI c w) (hcb:c ≤ b):GoodI b w:=by
 obtain ⟨w0,h1,h2,h3⟩:=h
 exact ⟨w0,h1,Nat.le_trans h2 hcb,h3⟩
theorem RtT.near {j:Nat} (h:RtT w b s bad) (hcb:c < b) (hg:GoodI c w) (y:Value):RtT (w.setCell ⟨c,j,none⟩ y) b s bad:=⟨(Below.heap_setCell w ⟨c,j,none⟩ y b (Nat.ne_of_gt hcb)).trans h.blk,h.len,(hg.only (Only.set w c j y)).up (Nat.le_of_lt hcb)⟩
end
def RestPost (b c B:Nat) (w:World) (s:Bt) (bad:Bool) (g:Bt) (r:Option (Cm × Bt)) (e:Ending) (w':World):Prop :=
 ∃ x t bad' v,e = .returned (.tuple #[])∧Two c b w w'∧RtT w' b t bad'∧t.length ≤ s.length∧CmAt w' c x v∧CmRows B w' x v∧Step bad r x t bad'∧x.tag = g
def RestC (wd:Bt) (rd:Cm→Rd Cm):Prop:=∀ (b c B:Nat) (s:Bt) (bad:Bool) (x:Cm) (v:CmV) (w:World),RtT w b s bad→GoodI c w→CmAt w c x v→CmRows B w x v→c < b→b < B→B ≤ w.heap.size→x.word = wd→x.flags = 0→x.mode = 0→(x.names = []∧v.names = .slice none 0 0)→(x.keys = []∧v.keys = .slice none 0 0) →
 Calls Tryz.prog 36 #[.pointer (some ⟨b,0,none⟩),.pointer (some ⟨c,0,none⟩)] w fun e w'=>RestPost b c B w s bad x.tag (rd x s) e w'
set_option maxHeartbeats 4000000 in
theorem rest_no0:RestC [67,65,80,65,66,73,76,73,84,89] (readF 0):=by
 intro b c B s bad x v w h hg hc hv hcb hbB hB hwd hx7 hx8 hx6 hx11
 have hne:c ≠ b:=by omega
 have hcB:c < B:=by omega
 have h1:w.cell? ⟨c,1,none⟩ = some (.string (str [67,65,80,65,66,73,76,73,84,89])):=by rw [← hwd];exact hc.c1
 have H:=hid h
 have G0:=hid hg
 have K0:=hid hc
 have S0:=hid hv
 have T0:=hid (Two.refl c b w)
 have W0:=hid hwd
 clear h hg hc hv hwd
 obtain ⟨R,hR⟩:∃ R,R = (readF 0) x s:=⟨_,rfl⟩
 rw [← hR]
 have II:=hid ((Inv.start bad R).to fun _=>hR)
 clear hR
 go_enter Tryz.func36,Tryz.ntmps36
 go_wp2_with fail
 go_end0
 exact ⟨x,s,bad,v,rfl,T0.out,H.out,Nat.le_refl _,K0.out,S0.out,II.out.out,rfl⟩
set_option maxHeartbeats 4000000 in
theorem rest_no1:RestC [78,79,79,80] (readF 0):=by
 intro b c B s bad x v w h hg hc hv hcb hbB hB hwd hx7 hx8 hx6 hx11
 have hne:c ≠ b:=by omega
 have hcB:c < B:=by omega
 have h1:w.cell? ⟨c,1,none⟩ = some (.string (str [78,79,79,80])):=by rw [← hwd];exact hc.c1
 have H:=hid h
 have G0:=hid hg
 have K0:=hid hc
 have S0:=hid hv
 have T0:=hid (Two.refl c b w)
 have W0:=hid hwd
 clear h hg hc hv hwd
 obtain ⟨R,hR⟩:∃ R,R = (readF 0) x s:=⟨_,rfl⟩
 rw [← hR]
 have II:=hid ((Inv.start bad R).to fun _=>hR)
 clear hR
 go_enter Tryz.func36,Tryz.ntmps36
 go_wp2_with fail
 go_end0
 exact ⟨x,s,bad,v,rfl,T0.out,H.out,Nat.le_refl _,K0.out,S0.out,II.out.out,rfl⟩
set_option maxHeartbeats 4000000 in
theorem rest_no2:RestC [76,79,71,79,85,84] (readF 0):=by
 intro b c B s bad x v w h hg hc hv hcb hbB hB hwd hx7 hx8 hx6 hx11
 have hne:c ≠ b:=by omega
 have hcB:c < B:=by omega
 have h1:w.cell? ⟨c,1,none⟩ = some (.string (str [76,79,71,79,85,84])):=by rw [← hwd];exact hc.c1
 have H:=hid h
 have G0:=hid hg
 have K0:=hid hc
 have S0:=hid hv
 have T0:=hid (Two.refl c b w)
 have W0:=hid hwd
 clear h hg hc hv hwd
 obtain ⟨R,hR⟩:∃ R,R = (readF 0) x s:=⟨_,rfl⟩
 rw [← hR]
 have II:=hid ((Inv.start bad R).to fun _=>hR)
 clear hR
 go_enter Tryz.func36,Tryz.ntmps36
 go_wp2_with fail
 go_end0
 exact ⟨x,s,bad,v,rfl,T0.out,H.out,Nat.le_refl _,K0.out,S0.out,II.out.out,rfl⟩
set_option maxHeartbeats 4000000 in
theorem rest_no3:RestC [67,72,69,67,75] (readF 0):=by
 intro b c B s bad x v w h hg hc hv hcb hbB hB hwd hx7 hx8 hx6 hx11
 have hne:c ≠ b:=by omega
 have hcB:c < B:=by omega
 have h1:w.cell? ⟨c,1,none⟩ = some (.string (str [67,72,69,67,75])):=by rw [← hwd];exact hc.c1
 have H:=hid h
 have G0:=hid hg
 have K0:=hid hc
 have S0:=hid hv
 have T0:=hid (Two.refl c b w)
 have W0:=hid hwd
 clear h hg hc hv hwd
 obtain ⟨R,hR⟩:∃ R,R = (readF 0) x s:=⟨_,rfl⟩
 rw [← hR]
 have II:=hid ((Inv.start bad R).to fun _=>hR)
 clear hR
 go_enter Tryz.func36,Tryz.ntmps36
 go_wp2_with fail
 go_end0
 exact ⟨x,s,bad,v,rfl,T0.out,H.out,Nat.le_refl _,K0.out,S0.out,II.out.out,rfl⟩
set_option maxHeartbeats 4000000 in
theorem rest_no4:RestC [67,76,79,83,69] (readF 0):=by
 intro b c B s bad x v w h hg hc hv hcb hbB hB hwd hx7 hx8 hx6 hx11
 have hne:c ≠ b:=by omega
 have hcB:c < B:=by omega
 have h1:w.cell? ⟨c,1,none⟩ = some (.string (str [67,76,79,83,69])):=by rw [← hwd];exact hc.c1
 have H:=hid h
 have G0:=hid hg
 have K0:=hid hc
 have S0:=hid hv
 have T0:=hid (Two.refl c b w)
 have W0:=hid hwd
 clear h hg hc hv hwd
 obtain ⟨R,hR⟩:∃ R,R = (readF 0) x s:=⟨_,rfl⟩
 rw [← hR]
 have II:=hid ((Inv.start bad R).to fun _=>hR)
 clear hR
 go_enter Tryz.func36,Tryz.ntmps36
 go_wp2_with fail
 go_end0
 exact ⟨x,s,bad,v,rfl,T0.out,H.out,Nat.le_refl _,K0.out,S0.out,II.out.out,rfl⟩
set_option maxHeartbeats 4000000 in
theorem rest_no5:RestC [69,88,80,85,78,71,69] (readF 0):=by
 intro b c B s bad x v w h hg hc hv hcb hbB hB hwd hx7 hx8 hx6 hx11
 have hne:c ≠ b:=by omega
 have hcB:c < B:=by omega
 have h1:w.cell? ⟨c,1,none⟩ = some (.string (str [69,88,80,85,78,71,69])):=by rw [← hwd];exact hc.c1
 have H:=hid h
 have G0:=hid hg
 have K0:=hid hc
 have S0:=hid hv
 have T0:=hid (Two.refl c b w)
 have W0:=hid hwd
 clear h hg hc hv hwd
 obtain ⟨R,hR⟩:∃ R,R = (readF 0) x s:=⟨_,rfl⟩
 rw [← hR]
 have II:=hid ((Inv.start bad R).to fun _=>hR)
 clear hR
 go_enter Tryz.func36,Tryz.ntmps36
 go_wp2_with fail
 go_end0
 exact ⟨x,s,bad,v,rfl,T0.out,H.out,Nat.le_refl _,K0.out,S0.out,II.out.out,rfl⟩
end Go.Proofs.YtfdmdmahddjjmaaGreatDoor
namespace Go.Proofs.YtfdmdmahddjjmaaGreatDoor
open Go.RowKit Own Im
attribute [local go_sem] str_toList str_size
set_option maxHeartbeats 4000000 in
theorem rest_one0:RestC [83,69,76,69,67,84] (readF 1):=by
 intro b c B s bad x v w h hg hc hv hcb hbB hB hwd hx7 hx8 hx6 hx11
 have hne:c ≠ b:=by omega
 have hcB:c < B:=by omega
 have h1:w.cell? ⟨c,1,none⟩ = some (.string (str [83,69,76,69,67,84])):=by rw [← hwd];exact hc.c1
 have H:=hid h
 have G0:=hid hg
 have K0:=hid hc
 have S0:=hid hv
 have T0:=hid (Two.refl c b w)
 have W0:=hid hwd
 clear h hg hc hv hwd
 obtain ⟨R,hR⟩:∃ R,R = (readF 1) x s:=⟨_,rfl⟩
 rw [← hR]
 have I0:=hid ((Inv.start bad R).to (K':=(signR 32 s).bind fun q=>(Im.text atomB q.2).bind fun r=>some ({ x with box:=r.1 },r.2)) fun _=>hR.trans (by show (then_ s).map _ = _;rw [then_map];congr 1;funext q;cases Im.text atomB q.2 <;> rfl))
 have hrun:RunC b 1 atomB:=fun s bad W h=>rrun1_any b s bad W h
 have tok0:Tk 0:=⟨⟩
 have L0:s.length ≤ s.length:=Nat.le_refl _
 have R0:=H
 have hle0:=hid L0
 clear hR
 go_enter Tryz.func36,Tryz.ntmps36
 go_wp2_with (first
  | (go_at_call 34;have t_:Tk 0:=‹Tk 0›;refine (rblank_any b s bad _ R0.out).mono ?_;rintro e w1 ⟨v1,x1,s1,d1,rfl,rfl,r1,l1,o1,t1⟩;have I1:=hid (I0.out.step t1);have L1:=hid (Nat.le_trans l1 hle0.out);have hle1:=L1;have kk1:=K0.out.only o1 hne;have ss1:=S0.out.stays (o1.stays hbB);have tt1:=T0.out.trans (o1.twoUp hcb);have gg1:=G0.out.below o1.low (Nat.le_of_lt hcb);have R1:=hid r1;have K1:=hid kk1;have T1:=hid tt1;have G1:=hid gg1;have S1:=hid ss1;have c11:=kk1.c1;rw [W0.out] at c11;clear r1 l1 o1 t1 kk1 ss1 tt1 gg1 <;> (clear t_ tok0;have tok1:Tk 1:=⟨⟩))
  | (go_at_call 73;have t_:Tk 1:=‹Tk 1›;refine (rany_any 1 atomB b hrun s1 d1 _ R1.out).mono ?_;rintro e w2 ⟨v2,x2,s2,d2,rfl,rfl,r2,l2,o2,t2⟩;have I2:=hid (I1.out.step t2);have L2:=hid (Nat.le_trans l2 hle1.out);have hle2:=L2;have kk2:=K1.out.only o2 hne;have ss2:=S1.out.stays (o2.stays hbB);have tt2:=T1.out.trans (o2.twoUp hcb);have gg2:=G1.out.below o2.low (Nat.le_of_lt hcb);have u2:=kk2.c4;have f2:=kk2.free 4;have R2:=hid (r2.near hcb gg2 (j:=4) (.string (str x2)));have K2:=hid (kk2.set4 x2);have T2:=hid (tt2.trans (Two.near w2 hcb 4 (.string (str x2))));have G2:=hid (gg2.only (Only.set w2 c 4 (.string (str x2))));have e2:=ss2.stays ((setStays w2 c 4 (.string (str x2))).mono hcB);have S2:=hid (CmRows.as K2.out e2.set e2.names e2.items e2.keys e2.lit);clear e2;clear r2 l2 o2 t2 kk2 ss2 tt2 gg2 <;> (clear t_ tok1;have tok2:Tk 2:=⟨⟩)))
 go_end0
 exact ⟨_,s2,d2,_,rfl,T2.out,R2.out,L2.out,K2.out,S2.out,I2.out.out,rfl⟩
set_option maxHeartbeats 4000000 in
theorem rest_one1:RestC [69,88,65,77,73,78,69] (readF 1):=by
 intro b c B s bad x v w h hg hc hv hcb hbB hB hwd hx7 hx8 hx6 hx11
 have hne:c ≠ b:=by omega
 have hcB:c < B:=by omega
 have h1:w.cell? ⟨c,1,none⟩ = some (.string (str [69,88,65,77,73,78,69])):=by rw [← hwd];exact hc.c1
 have H:=hid h
 have G0:=hid hg
 have K0:=hid hc
 have S0:=hid hv
 have T0:=hid (Two.refl c b w)
 have W0:=hid hwd
 clear h hg hc hv hwd
 obtain ⟨R,hR⟩:∃ R,R = (readF 1) x s:=⟨_,rfl⟩
 rw [← hR]
 have I0:=hid ((Inv.start bad R).to (K':=(signR 32 s).bind fun q=>(Im.text atomB q.2).bind fun r=>some ({ x with box:=r.1 },r.2)) fun _=>hR.trans (by show (then_ s).map _ = _;rw [then_map];congr 1;funext q;cases Im.text atomB q.2 <;> rfl))
 have hrun:RunC b 1 atomB:=fun s bad W h=>rrun1_any b s bad W h
 have tok0:Tk 0:=⟨⟩
 have L0:s.length ≤ s.length:=Nat.le_refl _
 have R0:=H
 have hle0:=hid L0
 clear hR
 go_enter Tryz.func36,Tryz.ntmps36
 go_wp2_with (first
  | (go_at_call 34;have t_:Tk 0:=‹Tk 0›;refine (rblank_any b s bad _ R0.out).mono ?_;rintro e w1 ⟨v1,x1,s1,d1,rfl,rfl,r1,l1,o1,t1⟩;have I1:=hid (I0.out.step t1);have L1:=hid (Nat.le_trans l1 hle0.out);have hle1:=L1;have kk1:=K0.out.only o1 hne;have ss1:=S0.out.stays (o1.stays hbB);have tt1:=T0.out.trans (o1.twoUp hcb);have gg1:=G0.out.below o1.low (Nat.le_of_lt hcb);have R1:=hid r1;have K1:=hid kk1;have T1:=hid tt1;have G1:=hid gg1;have S1:=hid ss1;have c11:=kk1.c1;rw [W0.out] at c11;clear r1 l1 o1 t1 kk1 ss1 tt1 gg1 <;> (clear t_ tok0;have tok1:Tk 1:=⟨⟩))
  | (go_at_call 73;have t_:Tk 1:=‹Tk 1›;refine (rany_any 1 atomB b hrun s1 d1 _ R1.out).mono ?_;rintro e w2 ⟨v2,x2,s2,d2,rfl,rfl,r2,l2,o2,t2⟩;have I2:=hid (I1.out.step t2);have L2:=hid (Nat.le_trans l2 hle1.out);have hle2:=L2;have kk2:=K1.out.only o2 hne;have ss2:=S1.out.stays (o2.stays hbB);have tt2:=T1.out.trans (o2.twoUp hcb);have gg2:=G1.out.below o2.low (Nat.le_of_lt hcb);have u2:=kk2.c4;have f2:=kk2.free 4;have R2:=hid (r2.near hcb gg2 (j:=4) (.string (str x2)));have K2:=hid (kk2.set4 x2);have T2:=hid (tt2.trans (Two.near w2 hcb 4 (.string (str x2))));have G2:=hid (gg2.only (Only.set w2 c 4 (.string (str x2))));have e2:=ss2.stays ((setStays w2 c 4 (.string (str x2))).mono hcB);have S2:=hid (CmRows.as K2.out e2.set e2.names e2.items e2.keys e2.lit);clear e2;clear r2 l2 o2 t2 kk2 ss2 tt2 gg2 <;> (clear t_ tok1;have tok2:Tk 2:=⟨⟩)))
 go_end0
 exact ⟨_,s2,d2,_,rfl,T2.out,R2.out,L2.out,K2.out,S2.out,I2.out.out,rfl⟩
set_option maxHeartbeats 4000000 in
theorem rest_one2:RestC [67,82,69,65,84,69] (readF 1):=by
 intro b c B s bad x v w h hg hc hv hcb hbB hB hwd hx7 hx8 hx6 hx11
 have hne:c ≠ b:=by omega
 have hcB:c < B:=by omega
 have h1:w.cell? ⟨c,1,none⟩ = some (.string (str [67,82,69,65,84,69])):=by rw [← hwd];exact hc.c1
 have H:=hid h
 have G0:=hid hg
 have K0:=hid hc
 have S0:=hid hv
 have T0:=hid (Two.refl c b w)
 have W0:=hid hwd
 clear h hg hc hv hwd
 obtain ⟨R,hR⟩:∃ R,R = (readF 1) x s:=⟨_,rfl⟩
 rw [← hR]
 have I0:=hid ((Inv.start bad R).to (K':=(signR 32 s).bind fun q=>(Im.text atomB q.2).bind fun r=>some ({ x with box:=r.1 },r.2)) fun _=>hR.trans (by show (then_ s).map _ = _;rw [then_map];congr 1;funext q;cases Im.text atomB q.2 <;> rfl))
 have hrun:RunC b 1 atomB:=fun s bad W h=>rrun1_any b s bad W h
 have tok0:Tk 0:=⟨⟩
 have L0:s.length ≤ s.length:=Nat.le_refl _
 have R0:=H
 have hle0:=hid L0
 clear hR
 go_enter Tryz.func36,Tryz.ntmps36
 go_wp2_with (first
  | (go_at_call 34;have t_:Tk 0:=‹Tk 0›;refine (rblank_any b s bad _ R0.out).mono ?_;rintro e w1 ⟨v1,x1,s1,d1,rfl,rfl,r1,l1,o1,t1⟩;have I1:=hid (I0.out.step t1);have L1:=hid (Nat.le_trans l1 hle0.out);have hle1:=L1;have kk1:=K0.out.only o1 hne;have ss1:=S0.out.stays (o1.stays hbB);have tt1:=T0.out.trans (o1.twoUp hcb);have gg1:=G0.out.below o1.low (Nat.le_of_lt hcb);have R1:=hid r1;have K1:=hid kk1;have T1:=hid tt1;have G1:=hid gg1;have S1:=hid ss1;have c11:=kk1.c1;rw [W0.out] at c11;clear r1 l1 o1 t1 kk1 ss1 tt1 gg1 <;> (clear t_ tok0;have tok1:Tk 1:=⟨⟩))
  | (go_at_call 73;have t_:Tk 1:=‹Tk 1›;refine (rany_any 1 atomB b hrun s1 d1 _ R1.out).mono ?_;rintro e w2 ⟨v2,x2,s2,d2,rfl,rfl,r2,l2,o2,t2⟩;have I2:=hid (I1.out.step t2);have L2:=hid (Nat.le_trans l2 hle1.out);have hle2:=L2;have kk2:=K1.out.only o2 hne;have ss2:=S1.out.stays (o2.stays hbB);have tt2:=T1.out.trans (o2.twoUp hcb);have gg2:=G1.out.below o2.low (Nat.le_of_lt hcb);have u2:=kk2.c4;have f2:=kk2.free 4;have R2:=hid (r2.near hcb gg2 (j:=4) (.string (str x2)));have K2:=hid (kk2.set4 x2);have T2:=hid (tt2.trans (Two.near w2 hcb 4 (.string (str x2))));have G2:=hid (gg2.only (Only.set w2 c 4 (.string (str x2))));have e2:=ss2.stays ((setStays w2 c 4 (.string (str x2))).mono hcB);have S2:=hid (CmRows.as K2.out e2.set e2.names e2.items e2.keys e2.lit);clear e2;clear r2 l2 o2 t2 kk2 ss2 tt2 gg2 <;> (clear t_ tok1;have tok2:Tk 2:=⟨⟩)))
 go_end0
 exact ⟨_,s2,d2,_,rfl,T2.out,R2.out,L2.out,K2.out,S2.out,I2.out.out,rfl⟩
set_option maxHeartbeats 4000000 in
theorem rest_one3:RestC [68,69,76,69,84,69] (readF 1):=by
 intro b c B s bad x v w h hg hc hv hcb hbB hB hwd hx7 hx8 hx6 hx11
 have hne:c ≠ b:=by omega
 have hcB:c < B:=by omega
 have h1:w.cell? ⟨c,1,none⟩ = some (.string (str [68,69,76,69,84,69])):=by rw [← hwd];exact hc.c1
 have H:=hid h
 have G0:=hid hg
 have K0:=hid hc
 have S0:=hid hv
 have T0:=hid (Two.refl c b w)
 have W0:=hid hwd
 clear h hg hc hv hwd
 obtain ⟨R,hR⟩:∃ R,R = (readF 1) x s:=⟨_,rfl⟩
 rw [← hR]
 have I0:=hid ((Inv.start bad R).to (K':=(signR 32 s).bind fun q=>(Im.text atomB q.2).bind fun r=>some ({ x with box:=r.1 },r.2)) fun _=>hR.trans (by show (then_ s).map _ = _;rw [then_map];congr 1;funext q;cases Im.text atomB q.2 <;> rfl))
 have hrun:RunC b 1 atomB:=fun s bad W h=>rrun1_any b s bad W h
 have tok0:Tk 0:=⟨⟩
 have L0:s.length ≤ s.length:=Nat.le_refl _
 have R0:=H
 have hle0:=hid L0
 clear hR
 go_enter Tryz.func36,Tryz.ntmps36
 go_wp2_with (first
  | (go_at_call 34;have t_:Tk 0:=‹Tk 0›;refine (rblank_any b s bad _ R0.out).mono ?_;rintro e w1 ⟨v1,x1,s1,d1,rfl,rfl,r1,l1,o1,t1⟩;have I1:=hid (I0.out.step t1);have L1:=hid (Nat.le_trans l1 hle0.out);have hle1:=L1;have kk1:=K0.out.only o1 hne;have ss1:=S0.out.stays (o1.stays hbB);have tt1:=T0.out.trans (o1.twoUp hcb);have gg1:=G0.out.below o1.low (Nat.le_of_lt hcb);have R1:=hid r1;have K1:=hid kk1;have T1:=hid tt1;have G1:=hid gg1;have S1:=hid ss1;have c11:=kk1.c1;rw [W0.out] at c11;clear r1 l1 o1 t1 kk1 ss1 tt1 gg1 <;> (clear t_ tok0;have tok1:Tk 1:=⟨⟩))
  | (go_at_call 73;have t_:Tk 1:=‹Tk 1›;refine (rany_any 1 atomB b hrun s1 d1 _ R1.out).mono ?_;rintro e w2 ⟨v2,x2,s2,d2,rfl,rfl,r2,l2,o2,t2⟩;have I2:=hid (I1.out.step t2);have L2:=hid (Nat.le_trans l2 hle1.out);have hle2:=L2;have kk2:=K1.out.only o2 hne;have ss2:=S1.out.stays (o2.stays hbB);have tt2:=T1.out.trans (o2.twoUp hcb);have gg2:=G1.out.below o2.low (Nat.le_of_lt hcb);have u2:=kk2.c4;have f2:=kk2.free 4;have R2:=hid (r2.near hcb gg2 (j:=4) (.string (str x2)));have K2:=hid (kk2.set4 x2);have T2:=hid (tt2.trans (Two.near w2 hcb 4 (.string (str x2))));have G2:=hid (gg2.only (Only.set w2 c 4 (.string (str x2))));have e2:=ss2.stays ((setStays w2 c 4 (.string (str x2))).mono hcB);have S2:=hid (CmRows.as K2.out e2.set e2.names e2.items e2.keys e2.lit);clear e2;clear r2 l2 o2 t2 kk2 ss2 tt2 gg2 <;> (clear t_ tok1;have tok2:Tk 2:=⟨⟩)))
 go_end0
 exact ⟨_,s2,d2,_,rfl,T2.out,R2.out,L2.out,K2.out,S2.out,I2.out.out,rfl⟩
set_option maxHeartbeats 4000000 in
theorem rest_one4:RestC [83,85,66,83,67,82,73,66,69] (readF 1):=by
 intro b c B s bad x v w h hg hc hv hcb hbB hB hwd hx7 hx8 hx6 hx11
 have hne:c ≠ b:=by omega
 have hcB:c < B:=by omega
 have h1:w.cell? ⟨c,1,none⟩ = some (.string (str [83,85,66,83,67,82,73,66,69])):=by rw [← hwd];exact hc.c1
 have H:=hid h
 have G0:=hid hg
 have K0:=hid hc
 have S0:=hid hv
 have T0:=hid (Two.refl c b w)
 have W0:=hid hwd
 clear h hg hc hv hwd
 obtain ⟨R,hR⟩:∃ R,R = (readF 1) x s:=⟨_,rfl⟩
 rw [← hR]
 have I0:=hid ((Inv.start bad R).to (K':=(signR 32 s).bind fun q=>(Im.text atomB q.2).bind fun r=>some ({ x with box:=r.1 },r.2)) fun _=>hR.trans (by show (then_ s).map _ = _;rw [then_map];congr 1;funext q;cases Im.text atomB q.2 <;> rfl))
 have hrun:RunC b 1 atomB:=fun s bad W h=>rrun1_any b s bad W h
 have tok0:Tk 0:=⟨⟩
 have L0:s.length ≤ s.length:=Nat.le_refl _
 have R0:=H
 have hle0:=hid L0
 clear hR
 go_enter Tryz.func36,Tryz.ntmps36
 go_wp2_with (first
  | (go_at_call 34;have t_:Tk 0:=‹Tk 0›;refine (rblank_any b s bad _ R0.out).mono ?_;rintro e w1 ⟨v1,x1,s1,d1,rfl,rfl,r1,l1,o1,t1⟩;have I1:=hid (I0.out.step t1);have L1:=hid (Nat.le_trans l1 hle0.out);have hle1:=L1;have kk1:=K0.out.only o1 hne;have ss1:=S0.out.stays (o1.stays hbB);have tt1:=T0.out.trans (o1.twoUp hcb);have gg1:=G0.out.below o1.low (Nat.le_of_lt hcb);have R1:=hid r1;have K1:=hid kk1;have T1:=hid tt1;have G1:=hid gg1;have S1:=hid ss1;have c11:=kk1.c1;rw [W0.out] at c11;clear r1 l1 o1 t1 kk1 ss1 tt1 gg1 <;> (clear t_ tok0;have tok1:Tk 1:=⟨⟩))
  | (go_at_call 73;have t_:Tk 1:=‹Tk 1›;refine (rany_any 1 atomB b hrun s1 d1 _ R1.out).mono ?_;rintro e w2 ⟨v2,x2,s2,d2,rfl,rfl,r2,l2,o2,t2⟩;have I2:=hid (I1.out.step t2);have L2:=hid (Nat.le_trans l2 hle1.out);have hle2:=L2;have kk2:=K1.out.only o2 hne;have ss2:=S1.out.stays (o2.stays hbB);have tt2:=T1.out.trans (o2.twoUp hcb);have gg2:=G1.out.below o2.low (Nat.le_of_lt hcb);have u2:=kk2.c4;have f2:=kk2.free 4;have R2:=hid (r2.near hcb gg2 (j:=4) (.string (str x2)));have K2:=hid (kk2.set4 x2);have T2:=hid (tt2.trans (Two.near w2 hcb 4 (.string (str x2))));have G2:=hid (gg2.only (Only.set w2 c 4 (.string (str x2))));have e2:=ss2.stays ((setStays w2 c 4 (.string (str x2))).mono hcB);have S2:=hid (CmRows.as K2.out e2.set e2.names e2.items e2.keys e2.lit);clear e2;clear r2 l2 o2 t2 kk2 ss2 tt2 gg2 <;> (clear t_ tok1;have tok2:Tk 2:=⟨⟩)))
 go_end0
 exact ⟨_,s2,d2,_,rfl,T2.out,R2.out,L2.out,K2.out,S2.out,I2.out.out,rfl⟩
set_option maxHeartbeats 4000000 in
theorem rest_one5:RestC [85,78,83,85,66,83,67,82,73,66,69] (readF 1):=by
 intro b c B s bad x v w h hg hc hv hcb hbB hB hwd hx7 hx8 hx6 hx11
 have hne:c ≠ b:=by omega
 have hcB:c < B:=by omega
 have h1:w.cell? ⟨c,1,none⟩ = some (.string (str [85,78,83,85,66,83,67,82,73,66,69])):=by rw [← hwd];exact hc.c1
 have H:=hid h
 have G0:=hid hg
 have K0:=hid hc
 have S0:=hid hv
 have T0:=hid (Two.refl c b w)
 have W0:=hid hwd
 clear h hg hc hv hwd
 obtain ⟨R,hR⟩:∃ R,R = (readF 1) x s:=⟨_,rfl⟩
 rw [← hR]
 have I0:=hid ((Inv.start bad R).to (K':=(signR 32 s).bind fun q=>(Im.text atomB q.2).bind fun r=>some ({ x with box:=r.1 },r.2)) fun _=>hR.trans (by show (then_ s).map _ = _;rw [then_map];congr 1;funext q;cases Im.text atomB q.2 <;> rfl))
 have hrun:RunC b 1 atomB:=fun s bad W h=>rrun1_any b s bad W h
 have tok0:Tk 0:=⟨⟩
 have L0:s.length ≤ s.length:=Nat.le_refl _
 have R0:=H
 have hle0:=hid L0
 clear hR
 go_enter Tryz.func36,Tryz.ntmps36
 go_wp2_with (first
  | (go_at_call 34;have t_:Tk 0:=‹Tk 0›;refine (rblank_any b s bad _ R0.out).mono ?_;rintro e w1 ⟨v1,x1,s1,d1,rfl,rfl,r1,l1,o1,t1⟩;have I1:=hid (I0.out.step t1);have L1:=hid (Nat.le_trans l1 hle0.out);have hle1:=L1;have kk1:=K0.out.only o1 hne;have ss1:=S0.out.stays (o1.stays hbB);have tt1:=T0.out.trans (o1.twoUp hcb);have gg1:=G0.out.below o1.low (Nat.le_of_lt hcb);have R1:=hid r1;have K1:=hid kk1;have T1:=hid tt1;have G1:=hid gg1;have S1:=hid ss1;have c11:=kk1.c1;rw [W0.out] at c11;clear r1 l1 o1 t1 kk1 ss1 tt1 gg1 <;> (clear t_ tok0;have tok1:Tk 1:=⟨⟩))
  | (go_at_call 73;have t_:Tk 1:=‹Tk 1›;refine (rany_any 1 atomB b hrun s1 d1 _ R1.out).mono ?_;rintro e w2 ⟨v2,x2,s2,d2,rfl,rfl,r2,l2,o2,t2⟩;have I2:=hid (I1.out.step t2);have L2:=hid (Nat.le_trans l2 hle1.out);have hle2:=L2;have kk2:=K1.out.only o2 hne;have ss2:=S1.out.stays (o2.stays hbB);have tt2:=T1.out.trans (o2.twoUp hcb);have gg2:=G1.out.below o2.low (Nat.le_of_lt hcb);have u2:=kk2.c4;have f2:=kk2.free 4;have R2:=hid (r2.near hcb gg2 (j:=4) (.string (str x2)));have K2:=hid (kk2.set4 x2);have T2:=hid (tt2.trans (Two.near w2 hcb 4 (.string (str x2))));have G2:=hid (gg2.only (Only.set w2 c 4 (.string (str x2))));have e2:=ss2.stays ((setStays w2 c 4 (.string (str x2))).mono hcB);have S2:=hid (CmRows.as K2.out e2.set e2.names e2.items e2.keys e2.lit);clear e2;clear r2 l2 o2 t2 kk2 ss2 tt2 gg2 <;> (clear t_ tok1;have tok2:Tk 2:=⟨⟩)))
 go_end0
 exact ⟨_,s2,d2,_,rfl,T2.out,R2.out,L2.out,K2.out,S2.out,I2.out.out,rfl⟩
set_option maxHeartbeats 4000000 in
theorem rest_rename:RestC [82,69,78,65,77,69] (readF 4):=by
 intro b c B s bad x v w h hg hc hv hcb hbB hB hwd hx7 hx8 hx6 hx11
 have hne:c ≠ b:=by omega
 have hcB:c < B:=by omega
 have h1:w.cell? ⟨c,1,none⟩ = some (.string (str [82,69,78,65,77,69])):=by rw [← hwd];exact hc.c1
 have H:=hid h
 have G0:=hid hg
 have K0:=hid hc
 have S0:=hid hv
 have T0:=hid (Two.refl c b w)
 have W0:=hid hwd
 clear h hg hc hv hwd
 obtain ⟨R,hR⟩:∃ R,R = (readF 4) x s:=⟨_,rfl⟩
 rw [← hR]
 have I0:=hid ((Inv.start bad R).to (K':=(signR 32 s).bind fun q=>(Im.text atomB q.2).bind fun r=>(signR 32 r.2).bind fun q2=>(Im.text atomB q2.2).bind fun r2=>some ({ x with box:=r.1,dest:=r2.1 },r2.2)) fun _=>hR.trans (by show (then_ s).bind _ = _;unfold then_ signR;cases sign [32] s with | none=>rfl | some q=>(show (Im.text atomB q).bind _ = (Im.text atomB q).bind _;congr 1;funext r;cases sign [32] r.2 with | none=>rfl | some q2=>(show (Im.text atomB q2).map _ = (Im.text atomB q2).bind _;cases Im.text atomB q2 <;> rfl))))
 have hrun:RunC b 1 atomB:=fun s bad W h=>rrun1_any b s bad W h
 have tok0:Tk 0:=⟨⟩
 have L0:s.length ≤ s.length:=Nat.le_refl _
 have R0:=H
 have hle0:=hid L0
 clear hR
 go_enter Tryz.func36,Tryz.ntmps36
 go_wp2_with (first
  | (go_at_call 34;have t_:Tk 0:=‹Tk 0›;refine (rblank_any b s bad _ R0.out).mono ?_;rintro e w1 ⟨v1,x1,s1,d1,rfl,rfl,r1,l1,o1,t1⟩;have I1:=hid (I0.out.step t1);have L1:=hid (Nat.le_trans l1 hle0.out);have hle1:=L1;have kk1:=K0.out.only o1 hne;have ss1:=S0.out.stays (o1.stays hbB);have tt1:=T0.out.trans (o1.twoUp hcb);have gg1:=G0.out.below o1.low (Nat.le_of_lt hcb);have R1:=hid r1;have K1:=hid kk1;have T1:=hid tt1;have G1:=hid gg1;have S1:=hid ss1;have c11:=kk1.c1;rw [W0.out] at c11;clear r1 l1 o1 t1 kk1 ss1 tt1 gg1 <;> (clear t_ tok0;have tok1:Tk 1:=⟨⟩))
  | (go_at_call 73;have t_:Tk 1:=‹Tk 1›;refine (rany_any 1 atomB b hrun s1 d1 _ R1.out).mono ?_;rintro e w2 ⟨v2,x2,s2,d2,rfl,rfl,r2,l2,o2,t2⟩;have I2:=hid (I1.out.step t2);have L2:=hid (Nat.le_trans l2 hle1.out);have hle2:=L2;have kk2:=K1.out.only o2 hne;have ss2:=S1.out.stays (o2.stays hbB);have tt2:=T1.out.trans (o2.twoUp hcb);have gg2:=G1.out.below o2.low (Nat.le_of_lt hcb);have u2:=kk2.c4;have f2:=kk2.free 4;have R2:=hid (r2.near hcb gg2 (j:=4) (.string (str x2)));have K2:=hid (kk2.set4 x2);have T2:=hid (tt2.trans (Two.near w2 hcb 4 (.string (str x2))));have G2:=hid (gg2.only (Only.set w2 c 4 (.string (str x2))));have e2:=ss2.stays ((setStays w2 c 4 (.string (str x2))).mono hcB);have S2:=hid (CmRows.as K2.out e2.set e2.names e2.items e2.keys e2.lit);clear e2;clear r2 l2 o2 t2 kk2 ss2 tt2 gg2 <;> (clear t_ tok1;have tok2:Tk 2:=⟨⟩))
  | (go_at_call 34;have t_:Tk 2:=‹Tk 2›;refine (rblank_any b s2 d2 _ R2.out).mono ?_;rintro e w3 ⟨v3,x3,s3,d3,rfl,rfl,r3,l3,o3,t3⟩;have I3:=hid (I2.out.step t3);have L3:=hid (Nat.le_trans l3 hle2.out);have hle3:=L3;have kk3:=K2.out.only o3 hne;have ss3:=S2.out.stays (o3.stays hbB);have tt3:=T2.out.trans (o3.twoUp hcb);have gg3:=G2.out.below o3.low (Nat.le_of_lt hcb);have R3:=hid r3;have K3:=hid kk3;have T3:=hid tt3;have G3:=hid gg3;have S3:=hid ss3;clear r3 l3 o3 t3 kk3 ss3 tt3 gg3 <;> (clear t_ tok2;have tok3:Tk 3:=⟨⟩))
  | (go_at_call 73;have t_:Tk 3:=‹Tk 3›;refine (rany_any 1 atomB b hrun s3 d3 _ R3.out).mono ?_;rintro e w4 ⟨v4,x4,s4,d4,rfl,rfl,r4,l4,o4,t4⟩;have I4:=hid (I3.out.step t4);have L4:=hid (Nat.le_trans l4 hle3.out);have hle4:=L4;have kk4:=K3.out.only o4 hne;have ss4:=S3.out.stays (o4.stays hbB);have tt4:=T3.out.trans (o4.twoUp hcb);have gg4:=G3.out.below o4.low (Nat.le_of_lt hcb);have u4:=kk4.c5;have f4:=kk4.free 5;have R4:=hid (r4.near hcb gg4 (j:=5) (.string (str x4)));have K4:=hid (kk4.set5 x4);have T4:=hid (tt4.trans (Two.near w4 hcb 5 (.string (str x4))));have G4:=hid (gg4.only (Only.set w4 c 5 (.string (str x4))));have e4:=ss4.stays ((setStays w4 c 5 (.string (str x4))).mono hcB);have S4:=hid (CmRows.as K4.out e4.set e4.names e4.items e4.keys e4.lit);clear e4;clear r4 l4 o4 t4 kk4 ss4 tt4 gg4 <;> (clear t_ tok3;have tok4:Tk 4:=⟨⟩)))
 go_end0
 exact ⟨_,s4,d4,_,rfl,T4.out,R4.out,L4.out,K4.out,S4.out,I4.out.out,rfl⟩
end Go.Proofs.YtfdmdmahddjjmaaGreatDoor
