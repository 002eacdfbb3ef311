/-
  Joined texts: RfP RfQ.
-/
import Derived.Test.YtfdmdmahddjjmaaGreatDoorPkRm
import Derived.Test.YtfdmdmahddjjmaaGreatDoorKRfI
set_option linter.unusedVariables false
set_option linter.unusedSimpArgs false
set_option maxRecDepth 100000
namespace Go.Proofs.YtfdmdmahddjjmaaGreatDoor
open Go.RowKit Own Im
attribute [local go_sem] str_toList str_size
theorem ritems_any (b:Nat) (s:Bt) (bad:Bool) (w:World) (h:RtT w b s bad) :
  Calls Tryz.prog 80 #[.pointer (some ⟨b,0,none⟩)] w fun e w'=>Goes b w s bad (vItems w.heap.size) (Im.items s) e w':=by
 obtain ⟨wd,r,hw⟩:∃ wd r,Im.word s = (wd,r):=⟨_,_,rfl⟩
 by_cases h0:r = []∧wd = [65,76,76]
 · exact ritems_all b s bad w h wd r hw h0.1 h0.2
 by_cases h1:r = []∧wd = [70,65,83,84]
 · exact ritems_fast b s bad w h wd r hw h1.1 h1.2
 exact ritems_rest b s bad w h wd r hw h0 h1
set_option maxHeartbeats 4000000 in
theorem rest_list:RestC [76,73,83,84] (readF 2):=by
 intro b c B s bad x v w h hg hc hv hcb hbB hB hwd hx7 hx8 hx6 hx11
 have hne:c ≠ b:=by omega
 have hcB:c < B:=by omega
 have h1:w.cell? ⟨c,1,none⟩ = some (.string (str [76,73,83,84])):=by rw [← hwd];exact hc.c1
 have H:=hid h
 have G0:=hid hg
 have K0:=hid hc
 have S0:=hid hv
 have T0:=hid (Two.refl c b w)
 have W0:=hid hwd
 clear h hg hc hv hwd
 obtain ⟨R,hR⟩:∃ R,R = (readF 2) x s:=⟨_,rfl⟩
 rw [← hR]
 have I0:=hid ((Inv.start bad R).to (K':=(signR 32 s).bind fun q=>(Im.text atomB q.2).bind fun r=>(signR 32 r.2).bind fun q2=>(Im.text patB q2.2).bind fun r2=>some ({ x with box:=r.1,dest:=r2.1 },r2.2)) fun _=>hR.trans (by show (then_ s).bind _ = _;unfold then_ signR;cases sign [32] s with | none=>rfl | some q=>(show (Im.text atomB q).bind _ = (Im.text atomB q).bind _;congr 1;funext r;cases sign [32] r.2 with | none=>rfl | some q2=>(show (Im.text patB q2).map _ = (Im.text patB q2).bind _;cases Im.text patB q2 <;> rfl))))
 have hrun:RunC b 1 atomB:=fun s bad W h=>rrun1_any b s bad W h
 have hrun2:RunC b 2 patB:=fun s bad W h=>rrun2_any b s bad W h
 have tok0:Tk 0:=⟨⟩
 have L0:s.length ≤ s.length:=Nat.le_refl _
 have R0:=H
 have hle0:=hid L0
 clear hR
 go_enter Tryz.func36,Tryz.ntmps36
 go_wp2_with (first
  | (go_at_call 34;have t_:Tk 0:=‹Tk 0›;refine (rblank_any b s bad _ R0.out).mono ?_;rintro e w1 ⟨v1,x1,s1,d1,rfl,rfl,r1,l1,o1,t1⟩;have I1:=hid (I0.out.step t1);have L1:=hid (Nat.le_trans l1 hle0.out);have hle1:=L1;have kk1:=K0.out.only o1 hne;have ss1:=S0.out.stays (o1.stays hbB);have tt1:=T0.out.trans (o1.twoUp hcb);have gg1:=G0.out.below o1.low (Nat.le_of_lt hcb);have R1:=hid r1;have K1:=hid kk1;have T1:=hid tt1;have G1:=hid gg1;have S1:=hid ss1;have c11:=kk1.c1;rw [W0.out] at c11;clear r1 l1 o1 t1 kk1 ss1 tt1 gg1 <;> (clear t_ tok0;have tok1:Tk 1:=⟨⟩))
  | (go_at_call 73;have t_:Tk 1:=‹Tk 1›;refine (rany_any 1 atomB b hrun s1 d1 _ R1.out).mono ?_;rintro e w2 ⟨v2,x2,s2,d2,rfl,rfl,r2,l2,o2,t2⟩;have I2:=hid (I1.out.step t2);have L2:=hid (Nat.le_trans l2 hle1.out);have hle2:=L2;have kk2:=K1.out.only o2 hne;have ss2:=S1.out.stays (o2.stays hbB);have tt2:=T1.out.trans (o2.twoUp hcb);have gg2:=G1.out.below o2.low (Nat.le_of_lt hcb);have u2:=kk2.c4;have f2:=kk2.free 4;have R2:=hid (r2.near hcb gg2 (j:=4) (.string (str x2)));have K2:=hid (kk2.set4 x2);have T2:=hid (tt2.trans (Two.near w2 hcb 4 (.string (str x2))));have G2:=hid (gg2.only (Only.set w2 c 4 (.string (str x2))));have e2:=ss2.stays ((setStays w2 c 4 (.string (str x2))).mono hcB);have S2:=hid (CmRows.as K2.out e2.set e2.names e2.items e2.keys e2.lit);clear e2;clear r2 l2 o2 t2 kk2 ss2 tt2 gg2 <;> (clear t_ tok1;have tok2:Tk 2:=⟨⟩))
  | (go_at_call 34;have t_:Tk 2:=‹Tk 2›;refine (rblank_any b s2 d2 _ R2.out).mono ?_;rintro e w3 ⟨v3,x3,s3,d3,rfl,rfl,r3,l3,o3,t3⟩;have I3:=hid (I2.out.step t3);have L3:=hid (Nat.le_trans l3 hle2.out);have hle3:=L3;have kk3:=K2.out.only o3 hne;have ss3:=S2.out.stays (o3.stays hbB);have tt3:=T2.out.trans (o3.twoUp hcb);have gg3:=G2.out.below o3.low (Nat.le_of_lt hcb);have R3:=hid r3;have K3:=hid kk3;have T3:=hid tt3;have G3:=hid gg3;have S3:=hid ss3;clear r3 l3 o3 t3 kk3 ss3 tt3 gg3 <;> (clear t_ tok2;have tok3:Tk 3:=⟨⟩))
  | (go_at_call 73;have t_:Tk 3:=‹Tk 3›;refine (rany_any 2 patB b hrun2 s3 d3 _ R3.out).mono ?_;rintro e w4 ⟨v4,x4,s4,d4,rfl,rfl,r4,l4,o4,t4⟩;have I4:=hid (I3.out.step t4);have L4:=hid (Nat.le_trans l4 hle3.out);have hle4:=L4;have kk4:=K3.out.only o4 hne;have ss4:=S3.out.stays (o4.stays hbB);have tt4:=T3.out.trans (o4.twoUp hcb);have gg4:=G3.out.below o4.low (Nat.le_of_lt hcb);have u4:=kk4.c5;have f4:=kk4.free 5;have R4:=hid (r4.near hcb gg4 (j:=5) (.string (str x4)));have K4:=hid (kk4.set5 x4);have T4:=hid (tt4.trans (Two.near w4 hcb 5 (.string (str x4))));have G4:=hid (gg4.only (Only.set w4 c 5 (.string (str x4))));have e4:=ss4.stays ((setStays w4 c 5 (.string (str x4))).mono hcB);have S4:=hid (CmRows.as K4.out e4.set e4.names e4.items e4.keys e4.lit);clear e4;clear r4 l4 o4 t4 kk4 ss4 tt4 gg4 <;> (clear t_ tok3;have tok4:Tk 4:=⟨⟩)))
 go_end0
 exact ⟨_,s4,d4,_,rfl,T4.out,R4.out,L4.out,K4.out,S4.out,I4.out.out,rfl⟩
set_option maxHeartbeats 4000000 in
theorem rest_lsub:RestC [76,83,85,66] (readF 2):=by
 intro b c B s bad x v w h hg hc hv hcb hbB hB hwd hx7 hx8 hx6 hx11
 have hne:c ≠ b:=by omega
 have hcB:c < B:=by omega
 have h1:w.cell? ⟨c,1,none⟩ = some (.string (str [76,83,85,66])):=by rw [← hwd];exact hc.c1
 have H:=hid h
 have G0:=hid hg
 have K0:=hid hc
 have S0:=hid hv
 have T0:=hid (Two.refl c b w)
 have W0:=hid hwd
 clear h hg hc hv hwd
 obtain ⟨R,hR⟩:∃ R,R = (readF 2) x s:=⟨_,rfl⟩
 rw [← hR]
 have I0:=hid ((Inv.start bad R).to (K':=(signR 32 s).bind fun q=>(Im.text atomB q.2).bind fun r=>(signR 32 r.2).bind fun q2=>(Im.text patB q2.2).bind fun r2=>some ({ x with box:=r.1,dest:=r2.1 },r2.2)) fun _=>hR.trans (by show (then_ s).bind _ = _;unfold then_ signR;cases sign [32] s with | none=>rfl | some q=>(show (Im.text atomB q).bind _ = (Im.text atomB q).bind _;congr 1;funext r;cases sign [32] r.2 with | none=>rfl | some q2=>(show (Im.text patB q2).map _ = (Im.text patB q2).bind _;cases Im.text patB q2 <;> rfl))))
 have hrun:RunC b 1 atomB:=fun s bad W h=>rrun1_any b s bad W h
 have hrun2:RunC b 2 patB:=fun s bad W h=>rrun2_any b s bad W h
 have tok0:Tk 0:=⟨⟩
 have L0:s.length ≤ s.length:=Nat.le_refl _
 have R0:=H
 have hle0:=hid L0
 clear hR
 go_enter Tryz.func36,Tryz.ntmps36
 go_wp2_with (first
  | (go_at_call 34;have t_:Tk 0:=‹Tk 0›;refine (rblank_any b s bad _ R0.out).mono ?_;rintro e w1 ⟨v1,x1,s1,d1,rfl,rfl,r1,l1,o1,t1⟩;have I1:=hid (I0.out.step t1);have L1:=hid (Nat.le_trans l1 hle0.out);have hle1:=L1;have kk1:=K0.out.only o1 hne;have ss1:=S0.out.stays (o1.stays hbB);have tt1:=T0.out.trans (o1.twoUp hcb);have gg1:=G0.out.below o1.low (Nat.le_of_lt hcb);have R1:=hid r1;have K1:=hid kk1;have T1:=hid tt1;have G1:=hid gg1;have S1:=hid ss1;have c11:=kk1.c1;rw [W0.out] at c11;clear r1 l1 o1 t1 kk1 ss1 tt1 gg1 <;> (clear t_ tok0;have tok1:Tk 1:=⟨⟩))
  | (go_at_call 73;have t_:Tk 1:=‹Tk 1›;refine (rany_any 1 atomB b hrun s1 d1 _ R1.out).mono ?_;rintro e w2 ⟨v2,x2,s2,d2,rfl,rfl,r2,l2,o2,t2⟩;have I2:=hid (I1.out.step t2);have L2:=hid (Nat.le_trans l2 hle1.out);have hle2:=L2;have kk2:=K1.out.only o2 hne;have ss2:=S1.out.stays (o2.stays hbB);have tt2:=T1.out.trans (o2.twoUp hcb);have gg2:=G1.out.below o2.low (Nat.le_of_lt hcb);have u2:=kk2.c4;have f2:=kk2.free 4;have R2:=hid (r2.near hcb gg2 (j:=4) (.string (str x2)));have K2:=hid (kk2.set4 x2);have T2:=hid (tt2.trans (Two.near w2 hcb 4 (.string (str x2))));have G2:=hid (gg2.only (Only.set w2 c 4 (.string (str x2))));have e2:=ss2.stays ((setStays w2 c 4 (.string (str x2))).mono hcB);have S2:=hid (CmRows.as K2.out e2.set e2.names e2.items e2.keys e2.lit);clear e2;clear r2 l2 o2 t2 kk2 ss2 tt2 gg2 <;> (clear t_ tok1;have tok2:Tk 2:=⟨⟩))
  | (go_at_call 34;have t_:Tk 2:=‹Tk 2›;refine (rblank_any b s2 d2 _ R2.out).mono ?_;rintro e w3 ⟨v3,x3,s3,d3,rfl,rfl,r3,l3,o3,t3⟩;have I3:=hid (I2.out.step t3);have L3:=hid (Nat.le_trans l3 hle2.out);have hle3:=L3;have kk3:=K2.out.only o3 hne;have ss3:=S2.out.stays (o3.stays hbB);have tt3:=T2.out.trans (o3.twoUp hcb);have gg3:=G2.out.below o3.low (Nat.le_of_lt hcb);have R3:=hid r3;have K3:=hid kk3;have T3:=hid tt3;have G3:=hid gg3;have S3:=hid ss3;clear r3 l3 o3 t3 kk3 ss3 tt3 gg3 <;> (clear t_ tok2;have tok3:Tk 3:=⟨⟩))
  | (go_at_call 73;have t_:Tk 3:=‹Tk 3›;refine (rany_any 2 patB b hrun2 s3 d3 _ R3.out).mono ?_;rintro e w4 ⟨v4,x4,s4,d4,rfl,rfl,r4,l4,o4,t4⟩;have I4:=hid (I3.out.step t4);have L4:=hid (Nat.le_trans l4 hle3.out);have hle4:=L4;have kk4:=K3.out.only o4 hne;have ss4:=S3.out.stays (o4.stays hbB);have tt4:=T3.out.trans (o4.twoUp hcb);have gg4:=G3.out.below o4.low (Nat.le_of_lt hcb);have u4:=kk4.c5;have f4:=kk4.free 5;have R4:=hid (r4.near hcb gg4 (j:=5) (.string (str x4)));have K4:=hid (kk4.set5 x4);have T4:=hid (tt4.trans (Two.near w4 hcb 5 (.string (str x4))));have G4:=hid (gg4.only (Only.set w4 c 5 (.string (str x4))));have e4:=ss4.stays ((setStays w4 c 5 (.string (str x4))).mono hcB);have S4:=hid (CmRows.as K4.out e4.set e4.names e4.items e4.keys e4.lit);clear e4;clear r4 l4 o4 t4 kk4 ss4 tt4 gg4 <;> (clear t_ tok3;have tok4:Tk 4:=⟨⟩)))
 go_end0
 exact ⟨_,s4,d4,_,rfl,T4.out,R4.out,L4.out,K4.out,S4.out,I4.out.out,rfl⟩
set_option maxHeartbeats 4000000 in
theorem rest_copy:RestC [67,79,80,89] (readF 8):=by
 intro b c B s bad x v w h hg hc hv hcb hbB hB hwd hx7 hx8 hx6 hx11
 have hne:c ≠ b:=by omega
 have hcB:c < B:=by omega
 have h1:w.cell? ⟨c,1,none⟩ = some (.string (str [67,79,80,89])):=by rw [← hwd];exact hc.c1
 have H:=hid h
 have G0:=hid hg
 have K0:=hid hc
 have S0:=hid hv
 have T0:=hid (Two.refl c b w)
 have W0:=hid hwd
 clear h hg hc hv hwd
 obtain ⟨R,hR⟩:∃ R,R = (readF 8) x s:=⟨_,rfl⟩
 rw [← hR]
 have I0:=hid ((Inv.start bad R).to (K':=(signR 32 s).bind fun q=>(Im.set q.2).bind fun r=>(signR 32 r.2).bind fun q2=>(Im.text atomB q2.2).bind fun r2=>some ({ x with set:=r.1,box:=r2.1 },r2.2)) fun _=>hR.trans (by show (sign [32] s).bind _ = _;unfold signR;cases sign [32] s with | none=>rfl | some q=>(show (Im.set q).bind _ = (Im.set q).bind _;congr 1;funext r;show (then_ r.2).map _ = _;rw [then_map];unfold signR;cases sign [32] r.2 with | none=>rfl | some q2=>(show (Im.text atomB q2).map _ = (Im.text atomB q2).bind _;cases Im.text atomB q2 <;> rfl))))
 have hrun:RunC b 1 atomB:=fun s bad W h=>rrun1_any b s bad W h
 have tok0:Tk 0:=⟨⟩
 have L0:s.length ≤ s.length:=Nat.le_refl _
 have R0:=H
 have hle0:=hid L0
 clear hR
 go_enter Tryz.func36,Tryz.ntmps36
 go_wp2_with (first
  | (go_at_call 34;have t_:Tk 0:=‹Tk 0›;refine (rblank_any b s bad _ R0.out).mono ?_;rintro e w1 ⟨v1,x1,s1,d1,rfl,rfl,r1,l1,o1,t1⟩;have I1:=hid (I0.out.step t1);have L1:=hid (Nat.le_trans l1 hle0.out);have hle1:=L1;have kk1:=K0.out.only o1 hne;have ss1:=S0.out.stays (o1.stays hbB);have tt1:=T0.out.trans (o1.twoUp hcb);have gg1:=G0.out.below o1.low (Nat.le_of_lt hcb);have R1:=hid r1;have K1:=hid kk1;have T1:=hid tt1;have G1:=hid gg1;have S1:=hid ss1;have c11:=kk1.c1;rw [W0.out] at c11;clear r1 l1 o1 t1 kk1 ss1 tt1 gg1 <;> (clear t_ tok0;have tok1:Tk 1:=⟨⟩))
  | (go_at_call 78;have t_:Tk 1:=‹Tk 1›;refine (rset_any b s1 d1 _ R1.out).mono ?_;rintro e w2 ⟨v2,x2,s2,d2,rfl,n2,r2,l2,o2,t2⟩;obtain ⟨A2,m2,rfl,-,-⟩:=n2.full;have I2:=hid (I1.out.step t2);have L2:=hid (Nat.le_trans l2 hle1.out);have hle2:=L2;have kk2:=K1.out.only o2 hne;have ss2:=S1.out.stays (o2.stays hbB);have tt2:=T1.out.trans (o2.twoUp hcb);have gg2:=G1.out.below o2.low (Nat.le_of_lt hcb);have u2:=kk2.c3;have f2:=kk2.free 3;have R2:=hid (r2.near hcb gg2 (j:=3) (.slice A2 x2.length m2));have K2:=hid (kk2.set3 (.slice A2 x2.length m2) x2);have T2:=hid (tt2.trans (Two.near w2 hcb 3 (.slice A2 x2.length m2)));have G2:=hid (gg2.only (Only.set w2 c 3 (.slice A2 x2.length m2)));have e2:=ss2.stays ((setStays w2 c 3 (.slice A2 x2.length m2)).mono hcB);have S2:=hid (CmRows.as K2.out ((n2.mono (Nat.le_trans hB T1.out.size)).stays ((setStays _ _ _ _).mono hcB)) e2.names e2.items e2.keys e2.lit);clear e2;clear r2 l2 o2 t2 kk2 ss2 tt2 gg2 <;> (clear t_ tok1;have tok2:Tk 2:=⟨⟩))
  | (go_at_call 34;have t_:Tk 2:=‹Tk 2›;refine (rblank_any b s2 d2 _ R2.out).mono ?_;rintro e w3 ⟨v3,x3,s3,d3,rfl,rfl,r3,l3,o3,t3⟩;have I3:=hid (I2.out.step t3);have L3:=hid (Nat.le_trans l3 hle2.out);have hle3:=L3;have kk3:=K2.out.only o3 hne;have ss3:=S2.out.stays (o3.stays hbB);have tt3:=T2.out.trans (o3.twoUp hcb);have gg3:=G2.out.below o3.low (Nat.le_of_lt hcb);have R3:=hid r3;have K3:=hid kk3;have T3:=hid tt3;have G3:=hid gg3;have S3:=hid ss3;clear r3 l3 o3 t3 kk3 ss3 tt3 gg3 <;> (clear t_ tok2;have tok3:Tk 3:=⟨⟩))
  | (go_at_call 73;have t_:Tk 3:=‹Tk 3›;refine (rany_any 1 atomB b hrun s3 d3 _ R3.out).mono ?_;rintro e w4 ⟨v4,x4,s4,d4,rfl,rfl,r4,l4,o4,t4⟩;have I4:=hid (I3.out.step t4);have L4:=hid (Nat.le_trans l4 hle3.out);have hle4:=L4;have kk4:=K3.out.only o4 hne;have ss4:=S3.out.stays (o4.stays hbB);have tt4:=T3.out.trans (o4.twoUp hcb);have gg4:=G3.out.below o4.low (Nat.le_of_lt hcb);have u4:=kk4.c4;have f4:=kk4.free 4;have R4:=hid (r4.near hcb gg4 (j:=4) (.string (str x4)));have K4:=hid (kk4.set4 x4);have T4:=hid (tt4.trans (Two.near w4 hcb 4 (.string (str x4))));have G4:=hid (gg4.only (Only.set w4 c 4 (.string (str x4))));have e4:=ss4.stays ((setStays w4 c 4 (.string (str x4))).mono hcB);have S4:=hid (CmRows.as K4.out e4.set e4.names e4.items e4.keys e4.lit);clear e4;clear r4 l4 o4 t4 kk4 ss4 tt4 gg4 <;> (clear t_ tok3;have tok4:Tk 4:=⟨⟩)))
 go_end0
 exact ⟨_,s4,d4,_,rfl,T4.out,R4.out,L4.out,K4.out,S4.out,I4.out.out,rfl⟩
set_option maxHeartbeats 4000000 in
theorem rest_fetch:RestC [70,69,84,67,72] (readF 9):=by
 intro b c B s bad x v w h hg hc hv hcb hbB hB hwd hx7 hx8 hx6 hx11
 have hne:c ≠ b:=by omega
 have hcB:c < B:=by omega
 have h1:w.cell? ⟨c,1,none⟩ = some (.string (str [70,69,84,67,72])):=by rw [← hwd];exact hc.c1
 have H:=hid h
 have G0:=hid hg
 have K0:=hid hc
 have S0:=hid hv
 have T0:=hid (Two.refl c b w)
 have W0:=hid hwd
 clear h hg hc hv hwd
 obtain ⟨R,hR⟩:∃ R,R = (readF 9) x s:=⟨_,rfl⟩
 rw [← hR]
 have I0:=hid ((Inv.start bad R).to (K':=(signR 32 s).bind fun q=>(Im.set q.2).bind fun r=>(signR 32 r.2).bind fun q2=>(Im.items q2.2).bind fun r2=>some ({ x with set:=r.1,items:=r2.1 },r2.2)) fun _=>hR.trans (by show (sign [32] s).bind _ = _;unfold signR;cases sign [32] s with | none=>rfl | some q=>(show (Im.set q).bind _ = (Im.set q).bind _;congr 1;funext r;show (sign [32] r.2).bind _ = _;cases sign [32] r.2 with | none=>rfl | some q2=>(show (Im.items q2).map _ = (Im.items q2).bind _;cases Im.items q2 <;> rfl))))
 have hrun:RunC b 1 atomB:=fun s bad W h=>rrun1_any b s bad W h
 have tok0:Tk 0:=⟨⟩
 have L0:s.length ≤ s.length:=Nat.le_refl _
 have R0:=H
 have hle0:=hid L0
 clear hR
 go_enter Tryz.func36,Tryz.ntmps36
 go_wp2_with (first
  | (go_at_call 34;have t_:Tk 0:=‹Tk 0›;refine (rblank_any b s bad _ R0.out).mono ?_;rintro e w1 ⟨v1,x1,s1,d1,rfl,rfl,r1,l1,o1,t1⟩;have I1:=hid (I0.out.step t1);have L1:=hid (Nat.le_trans l1 hle0.out);have hle1:=L1;have kk1:=K0.out.only o1 hne;have ss1:=S0.out.stays (o1.stays hbB);have tt1:=T0.out.trans (o1.twoUp hcb);have gg1:=G0.out.below o1.low (Nat.le_of_lt hcb);have R1:=hid r1;have K1:=hid kk1;have T1:=hid tt1;have G1:=hid gg1;have S1:=hid ss1;have c11:=kk1.c1;rw [W0.out] at c11;clear r1 l1 o1 t1 kk1 ss1 tt1 gg1 <;> (clear t_ tok0;have tok1:Tk 1:=⟨⟩))
  | (go_at_call 78;have t_:Tk 1:=‹Tk 1›;refine (rset_any b s1 d1 _ R1.out).mono ?_;rintro e w2 ⟨v2,x2,s2,d2,rfl,n2,r2,l2,o2,t2⟩;obtain ⟨A2,m2,rfl,-,-⟩:=n2.full;have I2:=hid (I1.out.step t2);have L2:=hid (Nat.le_trans l2 hle1.out);have hle2:=L2;have kk2:=K1.out.only o2 hne;have ss2:=S1.out.stays (o2.stays hbB);have tt2:=T1.out.trans (o2.twoUp hcb);have gg2:=G1.out.below o2.low (Nat.le_of_lt hcb);have u2:=kk2.c3;have f2:=kk2.free 3;have R2:=hid (r2.near hcb gg2 (j:=3) (.slice A2 x2.length m2));have K2:=hid (kk2.set3 (.slice A2 x2.length m2) x2);have T2:=hid (tt2.trans (Two.near w2 hcb 3 (.slice A2 x2.length m2)));have G2:=hid (gg2.only (Only.set w2 c 3 (.slice A2 x2.length m2)));have e2:=ss2.stays ((setStays w2 c 3 (.slice A2 x2.length m2)).mono hcB);have S2:=hid (CmRows.as K2.out ((n2.mono (Nat.le_trans hB T1.out.size)).stays ((setStays _ _ _ _).mono hcB)) e2.names e2.items e2.keys e2.lit);clear e2;clear r2 l2 o2 t2 kk2 ss2 tt2 gg2 <;> (clear t_ tok1;have tok2:Tk 2:=⟨⟩))
  | (go_at_call 34;have t_:Tk 2:=‹Tk 2›;refine (rblank_any b s2 d2 _ R2.out).mono ?_;rintro e w3 ⟨v3,x3,s3,d3,rfl,rfl,r3,l3,o3,t3⟩;have I3:=hid (I2.out.step t3);have L3:=hid (Nat.le_trans l3 hle2.out);have hle3:=L3;have kk3:=K2.out.only o3 hne;have ss3:=S2.out.stays (o3.stays hbB);have tt3:=T2.out.trans (o3.twoUp hcb);have gg3:=G2.out.below o3.low (Nat.le_of_lt hcb);have R3:=hid r3;have K3:=hid kk3;have T3:=hid tt3;have G3:=hid gg3;have S3:=hid ss3;clear r3 l3 o3 t3 kk3 ss3 tt3 gg3 <;> (clear t_ tok2;have tok3:Tk 3:=⟨⟩))
  | (go_at_call 80;have t_:Tk 3:=‹Tk 3›;refine (ritems_any b s3 d3 _ R3.out).mono ?_;rintro e w4 ⟨v4,x4,s4,d4,rfl,n4,r4,l4,o4,t4⟩;obtain ⟨A4,N4,m4,rfl,rfl⟩:=n4.slc;have I4:=hid (I3.out.step t4);have L4:=hid (Nat.le_trans l4 hle3.out);have hle4:=L4;have kk4:=K3.out.only o4 hne;have ss4:=S3.out.stays (o4.stays hbB);have tt4:=T3.out.trans (o4.twoUp hcb);have gg4:=G3.out.below o4.low (Nat.le_of_lt hcb);have u4:=kk4.c10;have f4:=kk4.free 10;have R4:=hid (r4.near hcb gg4 (j:=10) (.slice A4 x4.length m4));have K4:=hid (kk4.set10 (.slice A4 x4.length m4) x4);have T4:=hid (tt4.trans (Two.near w4 hcb 10 (.slice A4 x4.length m4)));have G4:=hid (gg4.only (Only.set w4 c 10 (.slice A4 x4.length m4)));have e4:=ss4.stays ((setStays w4 c 10 (.slice A4 x4.length m4)).mono hcB);have S4:=hid (CmRows.as K4.out e4.set e4.names ((n4.mono (Nat.le_trans hB T3.out.size)).stays ((setStays _ _ _ _).mono hcB)) e4.keys e4.lit);clear e4;clear r4 l4 o4 t4 kk4 ss4 tt4 gg4 <;> (clear t_ tok3;have tok4:Tk 4:=⟨⟩)))
 go_end0
 exact ⟨_,s4,d4,_,rfl,T4.out,R4.out,L4.out,K4.out,S4.out,I4.out.out,rfl⟩
end Go.Proofs.YtfdmdmahddjjmaaGreatDoor
namespace Go.Proofs.YtfdmdmahddjjmaaGreatDoor
open Go.RowKit Own Im
attribute [local go_sem] str_toList str_size
set_option maxHeartbeats 4000000 in
theorem rest_login:RestC [76,79,71,73,78] (readF 3):=by
 intro b c B s bad x v w h hg hc hv hcb hbB hB hwd hx7 hx8 hx6 hx11
 have hne:c ≠ b:=by omega
 have hcB:c < B:=by omega
 have h1:w.cell? ⟨c,1,none⟩ = some (.string (str [76,79,71,73,78])):=by rw [← hwd];exact hc.c1
 have H:=hid h
 have G0:=hid hg
 have K0:=hid hc
 have S0:=hid hv
 have T0:=hid (Two.refl c b w)
 have W0:=hid hwd
 clear h hg hc hv hwd
 obtain ⟨R,hR⟩:∃ R,R = (readF 3) x s:=⟨_,rfl⟩
 rw [← hR]
 have I0:=hid ((Inv.start bad R).to (K':=(signR 32 s).bind fun q=>(Im.text atomB q.2).bind fun r=>(signR 32 r.2).bind fun q2=>(Im.text atomB q2.2).bind fun r2=>some ({ x with names:=[r.1,r2.1] },r2.2)) fun _=>hR.trans (by show (then_ s).bind _ = _;unfold then_ signR;cases sign [32] s with | none=>rfl | some q=>(show (Im.text atomB q).bind _ = (Im.text atomB q).bind _;congr 1;funext r;cases sign [32] r.2 with | none=>rfl | some q2=>(show (Im.text atomB q2).map _ = (Im.text atomB q2).bind _;cases Im.text atomB q2 <;> rfl))))
 have hrun:RunC b 1 atomB:=fun s bad W h=>rrun1_any b s bad W h
 have tok0:Tk 0:=⟨⟩
 have L0:s.length ≤ s.length:=Nat.le_refl _
 have R0:=H
 have hle0:=hid L0
 clear hR
 go_enter Tryz.func36,Tryz.ntmps36
 go_wp2_with (first
  | (go_at_call 34;have t_:Tk 0:=‹Tk 0›;refine (rblank_any b s bad _ R0.out).mono ?_;rintro e w1 ⟨v1,x1,s1,d1,rfl,rfl,r1,l1,o1,t1⟩;have I1:=hid (I0.out.step t1);have L1:=hid (Nat.le_trans l1 hle0.out);have hle1:=L1;have kk1:=K0.out.only o1 hne;have ss1:=S0.out.stays (o1.stays hbB);have tt1:=T0.out.trans (o1.twoUp hcb);have gg1:=G0.out.below o1.low (Nat.le_of_lt hcb);have R1:=hid r1;have K1:=hid kk1;have T1:=hid tt1;have G1:=hid gg1;have S1:=hid ss1;have c11:=kk1.c1;rw [W0.out] at c11;clear r1 l1 o1 t1 kk1 ss1 tt1 gg1 <;> (clear t_ tok0;have tok1:Tk 1:=⟨⟩))
  | (go_at_call 73;have t_:Tk 1:=‹Tk 1›;refine (rany_any 1 atomB b hrun s1 d1 _ R1.out).mono ?_;rintro e w2 ⟨v2,x2,s2,d2,rfl,rfl,r2,l2,o2,t2⟩;have I2:=hid (I1.out.step t2);have L2:=hid (Nat.le_trans l2 hle1.out);have hle2:=L2;have kk2:=K1.out.only o2 hne;have ss2:=S1.out.stays (o2.stays hbB);have tt2:=T1.out.trans (o2.twoUp hcb);have gg2:=G1.out.below o2.low (Nat.le_of_lt hcb);have R2:=hid r2;have K2:=hid kk2;have T2:=hid tt2;have G2:=hid gg2;have S2:=hid ss2;clear r2 l2 o2 t2 kk2 ss2 tt2 gg2 <;> (clear t_ tok1;have tok2:Tk 2:=⟨⟩))
  | (go_at_call 34;have t_:Tk 2:=‹Tk 2›;refine (rblank_any b s2 d2 _ R2.out).mono ?_;rintro e w3 ⟨v3,x3,s3,d3,rfl,rfl,r3,l3,o3,t3⟩;have I3:=hid (I2.out.step t3);have L3:=hid (Nat.le_trans l3 hle2.out);have hle3:=L3;have kk3:=K2.out.only o3 hne;have ss3:=S2.out.stays (o3.stays hbB);have tt3:=T2.out.trans (o3.twoUp hcb);have gg3:=G2.out.below o3.low (Nat.le_of_lt hcb);have R3:=hid r3;have K3:=hid kk3;have T3:=hid tt3;have G3:=hid gg3;have S3:=hid ss3;clear r3 l3 o3 t3 kk3 ss3 tt3 gg3 <;> (clear t_ tok2;have tok3:Tk 3:=⟨⟩))
  | (go_at_call 73;have t_:Tk 3:=‹Tk 3›;refine (rany_any 1 atomB b hrun s3 d3 _ R3.out).mono ?_;rintro e w4 ⟨v4,x4,s4,d4,rfl,rfl,r4,l4,o4,t4⟩;have I4:=hid (I3.out.step t4);have L4:=hid (Nat.le_trans l4 hle3.out);have hle4:=L4;have kk4:=K3.out.only o4 hne;have ss4:=S3.out.stays (o4.stays hbB);have tt4:=T3.out.trans (o4.twoUp hcb);have gg4:=G3.out.below o4.low (Nat.le_of_lt hcb);have R4:=hid r4;have K4:=hid kk4;have T4:=hid tt4;have G4:=hid gg4;have S4:=hid ss4;have u6:=fun ob=>keep_below ((Below.refl w4.heap.size w4).alloc (Nat.le_refl _) ob) rfl kk4.c6;have f6:=fun ob=>keep_below_free ((Below.refl w4.heap.size w4).alloc (Nat.le_refl _) ob) kk4.lt (kk4.free 6);clear r4 l4 o4 t4 kk4 ss4 tt4 gg4 <;> (clear t_ tok3;have tok4:Tk 4:=⟨⟩)))
 go_end0
 have ab:=(Below.refl w4.heap.size w4).alloc (Nat.le_refl _) (.cells #[.string (str x2),.string (str x4)] 9)
 have hn:SBuf B (w4.alloc (.cells #[.string (str x2),.string (str x4)] 9)) (.slice (some ⟨w4.heap.size,0,none⟩) 2 2) [x2,x4]:=GBuf.mono (GBuf.lit w4 #[.string (str x2),.string (str x4)] 2 (by decide) rfl) (Nat.le_trans hB T4.out.size)
 have k5:=(K4.out.below ab).set6 (.slice (some ⟨w4.heap.size,0,none⟩) 2 2) [x2,x4]
 have g5:=G4.out.below ab (Nat.le_of_lt K4.out.lt)
 have e:=(S4.out.stays (Below.stays ab)).stays ((setStays _ c 6 (.slice (some ⟨w4.heap.size,0,none⟩) 2 2)).mono hcB)
 exact ⟨_,s4,d4,_,rfl,(T4.out.trans (Two.of ab (Nat.le_of_lt K4.out.lt))).trans (Two.near _ hcb _ _),(R4.out.below ab).near hcb g5 _,L4.out,k5,⟨e.set,hn.stays ((setStays _ _ _ _).mono hcB),e.items,e.keys,e.lit⟩,I4.out.out,rfl⟩
end Go.Proofs.YtfdmdmahddjjmaaGreatDoor
