/-
  The reference's rest: STORE.
-/
import Derived.Test.YtfdmdmahddjjmaaGreatDoorPkRp
import Derived.Test.YtfdmdmahddjjmaaGreatDoorKImSt
set_option linter.unusedVariables false
set_option linter.unusedSimpArgs false
set_option maxRecDepth 100000
namespace Go.Proofs.YtfdmdmahddjjmaaGreatDoor
open Go.RowKit Own Im
attribute [local go_sem] str_toList str_size
def stoF (st:List Rg) (x:Cm) (m:Int) (sl:Bool) (t:Bt):Option (Cm × Bt):=(if Lib.hasPrefix t [40] = true then Im.list t else flagsL (t.length + 1) x.flags t).map fun r=>({ x with set:=st,mode:=m,silent:=sl,flags:=r.1 },r.2)
def stoW (st:List Rg) (x:Cm) (m:Int) (s:Bt):Option (Cm × Bt):=if (!((Im.word s).1 == [70,76,65,71,83] || (Im.word s).1 == [70,76,65,71,83,46,83,73,76,69,78,84])) = true then none else (signR 32 (Im.word s).2).bind fun q=>stoF st x m ((Im.word s).1 == [70,76,65,71,83,46,83,73,76,69,78,84]) q.2
def stoM (x:Cm) (st:List Rg) (s:Bt):Option (Cm × Bt):=stoW st x (modeS x.mode s).1 (modeS x.mode s).2
theorem beq_dec (a b:Bt):(a == b) = decide (a = b):=by
 by_cases h:a = b
 · rw [decide_eq_true h];simpa using h
 · rw [decide_eq_false h];simpa using h
theorem sto_tail (x:Cm) (st:List Rg) (m:Int) (s:Bt):(if (Im.word s).1 = [70,76,65,71,83,46,83,73,76,69,78,84]∨(Im.word s).1 = [70,76,65,71,83] then
  (sign [32] (Im.word s).2).bind fun t=>(if Lib.hasPrefix t [40] = true then Im.list t else flagsL (t.length + 1) x.flags t).map fun r=>(({ x with set:=st,mode:=m,silent:=decide ((Im.word s).1 = [70,76,65,71,83,46,83,73,76,69,78,84]),flags:=r.1 }:Cm),r.2)
 else none) = stoW st x m s:=by
 unfold stoW
 obtain ⟨wd,t,hw⟩:∃ wd t,Im.word s = (wd,t):=⟨_,_,rfl⟩
 rw [hw]
 dsimp only
 rw [beq_dec wd [70,76,65,71,83],beq_dec wd [70,76,65,71,83,46,83,73,76,69,78,84],signR_bind]
 by_cases h:wd = [70,76,65,71,83,46,83,73,76,69,78,84]∨wd = [70,76,65,71,83]
 · rw [if_pos h,if_neg (by rcases h with h | h <;> simp [h])]
   rfl
 · rw [if_neg h,if_pos (by simp only [not_or] at h;simp [h.1,h.2])]
theorem sto_ref (x:Cm) (s:Bt):storeF x s = ((signR 32 s).bind fun q=>(Im.set q.2).bind fun r=>(signR 32 r.2).bind fun q2=>stoM x r.1 q2.2):=by
 unfold storeF signR
 cases sign [32] s with
 | none=>rfl
 | some q =>
  simp only [Option.bind_some,Option.map_some]
  congr 1
  funext r
  cases sign [32] r.2 with
  | none=>rfl
  | some q2=>exact sto_tail x r.1 _ _
theorem sto_plus {x:Cm} {st:List Rg} {s:Bt} (h:Lib.hasPrefix s [43] = true):stoM x st s = (signR 43 s).bind fun q=>stoW st x 1 q.2:=by
 have h2:sign [43] s = some (s.drop 1):=by unfold sign;rw [if_pos h];rfl
 rw [signR_bind,h2]
 unfold stoM modeS
 rw [takes_one,h]
 rfl
theorem sto_minus {x:Cm} {st:List Rg} {s:Bt} (h:Lib.hasPrefix s [43] = false) (h1:Lib.hasPrefix s [45] = true):stoM x st s = (signR 45 s).bind fun q=>stoW st x 2 q.2:=by
 have h2:sign [45] s = some (s.drop 1):=by unfold sign;rw [if_pos h1];rfl
 rw [signR_bind,h2]
 unfold stoM modeS
 rw [takes_one,takes_one,h,h1]
 rfl
theorem sto_none {x:Cm} {st:List Rg} {s:Bt} (h:Lib.hasPrefix s [43] = false) (h1:Lib.hasPrefix s [45] = false):stoM x st s = stoW st x x.mode s:=by
 unfold stoM modeS
 rw [takes_one,takes_one,h,h1]
 rfl
theorem sto_list {st:List Rg} {x:Cm} {m:Int} {sl:Bool} {t:Bt} (h:Lib.hasPrefix t [40] = true):stoF st x m sl t = (Im.list t).bind fun r=>some ({ x with set:=st,mode:=m,silent:=sl,flags:=r.1 },r.2):=by
 unfold stoF
 rw [if_pos h]
 cases Im.list t <;> rfl
def flgT (y:Nat→Cm) (f n:Nat) (t:Bt):Option (Cm × Bt):=(if (takes [32] t).1 = true then flagsL f n (takes [32] t).2 else some (n,t)).map fun r=>(y r.1,r.2)
theorem flagsL_eq (f n:Nat) (s:Bt):flagsL (f + 1) n s = (Im.flag s).bind fun q=>if (takes [32] q.2).1 = true then flagsL f (n ||| q.1) (takes [32] q.2).2 else some (n ||| q.1,q.2):=by
 rw [flagsL.eq_def]
theorem flg_first {st:List Rg} {x:Cm} {m:Int} {sl:Bool} {t:Bt} (hx:x.flags = 0) (h:Lib.hasPrefix t [40] = false):stoF st x m sl t = (Im.flag t).bind fun q=>flgT (fun fl=>{ x with set:=st,mode:=m,silent:=sl,flags:=fl }) t.length q.1 q.2:=by
 unfold stoF
 rw [if_neg (by rw [h];simp),flagsL_eq,hx]
 cases Im.flag t with
 | none=>rfl
 | some q =>
  simp only [Option.bind_some]
  unfold flgT
  rw [Nat.zero_or]
theorem flg_end {y:Nat→Cm} {f n:Nat} {t:Bt} (h:Lib.hasPrefix t [32] = false):flgT y f n t = some (y n,t):=by
 unfold flgT
 rw [takes_one,h]
 rfl
theorem flg_on {y:Nat→Cm} {f n:Nat} {t:Bt} (h:Lib.hasPrefix t [32] = true):flgT y (f + 1) n t = (signR 32 t).bind fun q=>(Im.flag q.2).bind fun r=>flgT y f (n ||| r.1) r.2:=by
 have h2:sign [32] t = some (t.drop 1):=by unfold sign;rw [if_pos h];rfl
 rw [signR_bind,h2,Option.bind_some]
 unfold flgT
 rw [takes_one,h]
 simp only [if_true]
 rw [flagsL_eq]
 cases Im.flag (t.drop 1) with
 | none=>rfl
 | some q=>rfl
set_option maxHeartbeats 4000000 in
theorem rest_store:RestC [83,84,79,82,69] (readF 7):=by
 intro b c B s bad x v w h hg hc hv hcb hbB hB hwd hx7 hx8 hx6 hx11
 have hne:c ≠ b:=by omega
 have hcB:c < B:=by omega
 have h1:w.cell? ⟨c,1,none⟩ = some (.string (str [83,84,79,82,69])):=by rw [← hwd];exact hc.c1
 have H:=hid h
 have G0:=hid hg
 have K0:=hid hc
 have S0:=hid hv
 have T0:=hid (Two.refl c b w)
 have W0:=hid hwd
 clear h hg hc hv hwd
 obtain ⟨R,hR⟩:∃ R,R = (readF 7) x s:=⟨_,rfl⟩
 rw [← hR]
 have I0:=hid ((Inv.start bad R).to (K':=(signR 32 s).bind fun q=>(Im.set q.2).bind fun r=>(signR 32 r.2).bind fun q2=>stoM x r.1 q2.2) fun _=>hR.trans (by show storeF x s = _;exact sto_ref x s))
 have hrun:RunC b 1 atomB:=fun s bad W h=>rrun1_any b s bad W h
 have tok0:Tk 0:=⟨⟩
 have L0:s.length ≤ s.length:=Nat.le_refl _
 have R0:=H
 have hle0:=hid L0
 clear hR
 go_enter Tryz.func36,Tryz.ntmps36
 go_upto_region 56 with (first
  | (go_at_call 34;have t_:Tk 0:=‹Tk 0›;refine (rblank_any b s bad _ R0.out).mono ?_;rintro e w1 ⟨v1,x1,s1,d1,rfl,rfl,r1,l1,o1,t1⟩;have I1:=hid (I0.out.step t1);have L1:=hid (Nat.le_trans l1 hle0.out);have hle1:=L1;have kk1:=K0.out.only o1 hne;have ss1:=S0.out.stays (o1.stays hbB);have tt1:=T0.out.trans (o1.twoUp hcb);have gg1:=G0.out.below o1.low (Nat.le_of_lt hcb);have R1:=hid r1;have K1:=hid kk1;have T1:=hid tt1;have G1:=hid gg1;have S1:=hid ss1;have c11:=kk1.c1;rw [W0.out] at c11;clear r1 l1 o1 t1 kk1 ss1 tt1 gg1 <;> (clear t_ tok0;have tok1:Tk 1:=⟨⟩))
  | (go_at_call 78;have t_:Tk 1:=‹Tk 1›;refine (rset_any b s1 d1 _ R1.out).mono ?_;rintro e w2 ⟨v2,x2,s2,d2,rfl,n2,r2,l2,o2,t2⟩;obtain ⟨A2,m2,rfl,-,-⟩:=n2.full;have I2:=hid (I1.out.step t2);have L2:=hid (Nat.le_trans l2 hle1.out);have hle2:=L2;have kk2:=K1.out.only o2 hne;have ss2:=S1.out.stays (o2.stays hbB);have tt2:=T1.out.trans (o2.twoUp hcb);have gg2:=G1.out.below o2.low (Nat.le_of_lt hcb);have u2:=kk2.c3;have f2:=kk2.free 3;have R2:=hid (r2.near hcb gg2 (j:=3) (.slice A2 x2.length m2));have K2:=hid (kk2.set3 (.slice A2 x2.length m2) x2);have T2:=hid (tt2.trans (Two.near w2 hcb 3 (.slice A2 x2.length m2)));have G2:=hid (gg2.only (Only.set w2 c 3 (.slice A2 x2.length m2)));have e2:=ss2.stays ((setStays w2 c 3 (.slice A2 x2.length m2)).mono hcB);have S2:=hid (CmRows.as K2.out ((n2.mono (Nat.le_trans hB T1.out.size)).stays ((setStays _ _ _ _).mono hcB)) e2.names e2.items e2.keys e2.lit);clear e2;clear r2 l2 o2 t2 kk2 ss2 tt2 gg2 <;> (clear t_ tok1;have tok2:Tk 2:=⟨⟩))
  | (go_at_call 34;have t_:Tk 2:=‹Tk 2›;refine (rblank_any b s2 d2 _ R2.out).mono ?_;rintro e w3 ⟨v3,x3,s3,d3,rfl,rfl,r3,l3,o3,t3⟩;have I3:=hid (I2.out.step t3);have L3:=hid (Nat.le_trans l3 hle2.out);have hle3:=L3;have kk3:=K2.out.only o3 hne;have ss3:=S2.out.stays (o3.stays hbB);have tt3:=T2.out.trans (o3.twoUp hcb);have gg3:=G2.out.below o3.low (Nat.le_of_lt hcb);have R3:=hid r3;have K3:=hid kk3;have T3:=hid tt3;have G3:=hid gg3;have S3:=hid ss3;clear r3 l3 o3 t3 kk3 ss3 tt3 gg3 <;> (clear t_ tok2;have tok3:Tk 3:=⟨⟩)))
 obtain ⟨pk,hp4⟩:∃ pk,Lib.hasPrefix s3 [43] = pk:=⟨_,rfl⟩
 go_upto_if 199 with (go_at_call 33;have hse:=rsees_any 43 43 rfl b s3 d3 _ R3.out;rw [hp4] at hse;refine hse.mono ?_;clear hse;rintro e w4 ⟨rfl,he⟩;obtain rfl:=he.symm)
 go_cut [] from 200 to 211 (fun wx=>∃ (m:Int) (t:Bt) (d:Bool),Inv bad R d (stoW x2 x m t)∧CmAt wx c { x with set:=x2,mode:=m } { v with set:=.slice A2 x2.length m2 }∧CmRows B wx { x with set:=x2,mode:=m } { v with set:=.slice A2 x2.length m2 }∧RtT wx b t d∧Two c b w wx∧t.length ≤ s.length)
 case first =>
  cases pk with
  | true =>
   have I4:=hid (I3.out.to fun _=>sto_plus hp4)
   clear I3 hp4
   have I3:=hid I4.out
   clear I4
   go_wp2_with (go_at_call 72;have t_:Tk 3:=‹Tk 3›;refine (rsign_any 43 43 rfl b s3 d3 _ R3.out).mono ?_;rintro e w5 ⟨v5,x5,s5,d5,rfl,rfl,r5,l5,o5,t5⟩;have I5:=hid (I3.out.step t5);have L5:=hid (Nat.le_trans l5 hle3.out);have hle5:=L5;have kk5:=K3.out.only o5 hne;have ss5:=S3.out.stays (o5.stays hbB);have tt5:=T3.out.trans (o5.twoUp hcb);have gg5:=G3.out.below o5.low (Nat.le_of_lt hcb);have u5:=kk5.c8;have f5:=kk5.free 8;have R5:=hid (r5.near hcb gg5 (j:=8) (.int .i64 1));have K5:=hid (kk5.set8 1);have T5:=hid (tt5.trans (Two.near w5 hcb 8 (.int .i64 1)));have G5:=hid (gg5.only (Only.set w5 c 8 (.int .i64 1)));have e5:=ss5.stays ((setStays w5 c 8 (.int .i64 1)).mono hcB);have S5:=hid (CmRows.as K5.out e5.set e5.names e5.items e5.keys e5.lit);clear e5;clear r5 l5 o5 t5 kk5 ss5 tt5 gg5 <;> (clear t_ tok3;have tok4:Tk 4:=⟨⟩))
   go_meet
   exact ⟨1,s5,d5,I5.out,K5.out,(have e:=S5.out;⟨e.set,e.names,e.items,e.keys,e.lit⟩),R5.out,T5.out,L5.out⟩
  | false =>
   obtain ⟨mk,hp5⟩:∃ mk,Lib.hasPrefix s3 [45] = mk:=⟨_,rfl⟩
   cases mk with
   | true =>
    have I4:=hid (I3.out.to fun _=>sto_minus hp4 hp5)
    have HP5:=hid hp5
    clear I3 hp4 hp5
    have I3:=hid I4.out
    clear I4
    go_wp2_with (first
     | (go_at_call 33;have hse:=rsees_any 45 45 rfl b s3 d3 _ R3.out;rw [HP5.out] at hse;refine hse.mono ?_;clear hse;rintro e w4 ⟨rfl,he⟩;obtain rfl:=he.symm)
     | (go_at_call 72;have t_:Tk 3:=‹Tk 3›;refine (rsign_any 45 45 rfl b s3 d3 _ R3.out).mono ?_;rintro e w5 ⟨v5,x5,s5,d5,rfl,rfl,r5,l5,o5,t5⟩;have I5:=hid (I3.out.step t5);have L5:=hid (Nat.le_trans l5 hle3.out);have hle5:=L5;have kk5:=K3.out.only o5 hne;have ss5:=S3.out.stays (o5.stays hbB);have tt5:=T3.out.trans (o5.twoUp hcb);have gg5:=G3.out.below o5.low (Nat.le_of_lt hcb);have u5:=kk5.c8;have f5:=kk5.free 8;have R5:=hid (r5.near hcb gg5 (j:=8) (.int .i64 2));have K5:=hid (kk5.set8 2);have T5:=hid (tt5.trans (Two.near w5 hcb 8 (.int .i64 2)));have G5:=hid (gg5.only (Only.set w5 c 8 (.int .i64 2)));have e5:=ss5.stays ((setStays w5 c 8 (.int .i64 2)).mono hcB);have S5:=hid (CmRows.as K5.out e5.set e5.names e5.items e5.keys e5.lit);clear e5;clear r5 l5 o5 t5 kk5 ss5 tt5 gg5 <;> (clear t_ tok3;have tok4:Tk 4:=⟨⟩)))
    go_meet
    exact ⟨2,s5,d5,I5.out,K5.out,(have e:=S5.out;⟨e.set,e.names,e.items,e.keys,e.lit⟩),R5.out,T5.out,L5.out⟩
   | false =>
    have I4:=hid (I3.out.to fun _=>sto_none hp4 hp5)
    have HP5:=hid hp5
    clear I3 hp4 hp5
    go_wp2_with (go_at_call 33;have hse:=rsees_any 45 45 rfl b s3 d3 _ R3.out;rw [HP5.out] at hse;refine hse.mono ?_;clear hse;rintro e w4 ⟨rfl,he⟩;obtain rfl:=he.symm)
    go_meet
    exact ⟨x.mode,s3,d3,I4.out,K3.out,(have e:=S3.out;⟨e.set,e.names,e.items,e.keys,e.lit⟩),R3.out,T3.out,L3.out⟩
 case rest =>
  obtain ⟨m,s7,d7,hi7,hc7,hv7,hr7,ht7,hl7⟩:=hcut
  obtain ⟨wd,s8,hw⟩:∃ wd s8,Im.word s7 = (wd,s8):=⟨_,_,rfl⟩
  have hwd:=fun W hW=>rword_any b s7 d7 W hW
  have hle:=word_le s7
  rw [hw] at hwd hle
  dsimp only at hwd hle
  unfold stoW at hi7
  rw [hw] at hi7
  dsimp only at hi7
  have I7:=hid hi7.guard
  have K7:=hid hc7
  have S7:=hid hv7
  have R7:=hid hr7
  have T7:=hid ht7
  have L8:=hid (Nat.le_trans hle hl7)
  have hle8:=hid L8.out
  clear hi7 hc7 hv7 hr7 ht7 hl7 hle hp4 hw
  go_upto_region 63 with (go_at_call 32;refine (hwd _ R7.out).mono ?_;rintro e w8 ⟨rfl,r8,o8⟩;have c8:=r8.c1;have f8:=r8.free 1;have R8:=hid r8;have K8:=hid (K7.out.only o8 hne);have S8:=hid (S7.out.stays (o8.stays hbB));have T8:=hid (T7.out.trans (o8.twoUp hcb));clear r8 o8)
  go_cut [] from 214 to 228 (fun wx=>wx = w8.setCell ⟨b,1,none⟩ (.bool (d7 || !(wd == [70,76,65,71,83] || wd == [70,76,65,71,83,46,83,73,76,69,78,84]))))
  case first =>
   have hq:((wd == [70,76,65,71,83]) = true∧(wd == [70,76,65,71,83] || wd == [70,76,65,71,83,46,83,73,76,69,78,84]) = true)∨((wd == [70,76,65,71,83]) = false∧(wd == [70,76,65,71,83,46,83,73,76,69,78,84]) = true∧(wd == [70,76,65,71,83] || wd == [70,76,65,71,83,46,83,73,76,69,78,84]) = true)∨((wd == [70,76,65,71,83]) = false∧(wd == [70,76,65,71,83,46,83,73,76,69,78,84]) = false∧(wd == [70,76,65,71,83] || wd == [70,76,65,71,83,46,83,73,76,69,78,84]) = false):=by
    cases (wd == [70,76,65,71,83]) <;> cases (wd == [70,76,65,71,83,46,83,73,76,69,78,84]) <;> simp
   rcases hq with ⟨e0,hcn⟩ | ⟨e0,e1,hcn⟩ | ⟨e0,e1,hcn⟩
   all_goals
    have HCN:=hid hcn
    clear hcn
    cases d7
   all_goals
    go_wp2_with fail
    go_meet
    rw [HCN.out]
    rfl
  case rest =>
   obtain rfl:=hcut
   obtain ⟨d8,hd8⟩:∃ d8,(d7 || !(wd == [70,76,65,71,83] || wd == [70,76,65,71,83,46,83,73,76,69,78,84])) = d8:=⟨_,rfl⟩
   have i8:=I7.out
   rw [hd8] at i8 ⊢
   obtain ⟨sl,hsl⟩:∃ sl,(wd == [70,76,65,71,83,46,83,73,76,69,78,84]) = sl:=⟨_,rfl⟩
   rw [hsl] at i8
   clear hd8
   obtain ⟨W,hW⟩:∃ W,W = w8.setCell ⟨b,1,none⟩ (.bool d8):=⟨_,rfl⟩
   have o9:Only b w8 W:=by rw [hW];exact Only.set _ _ _ _
   have r8:RtT W b s8 d8:=by rw [hW];exact R8.out.set1 d8
   rw [← hW]
   clear hW
   have k8:=K8.out.only o9 hne
   have t8:=T8.out.trans (o9.twoUp hcb)
   have u9:=k8.c9
   have f9:=k8.free 9
   have e8:=(S8.out.stays (o9.stays hbB)).stays ((setStays W c 9 (.bool sl)).mono hcB)
   clear R8 S8 T8 I7 K8
   have I8:=hid i8
   have K8:=hid (k8.set9 sl)
   have S8:Hid (CmRows B (W.setCell ⟨c,9,none⟩ (.bool sl)) { x with set:=x2,mode:=m,silent:=sl } { v with set:=.slice A2 x2.length m2 }):=hid ⟨e8.set,e8.names,e8.items,e8.keys,e8.lit⟩
   have R8:=hid (r8.near hcb (G0.out.two t8) (j:=9) (.bool sl))
   have T8:=hid (t8.trans (Two.near W hcb 9 (.bool sl)))
   have G8:=hid (G0.out.two T8.out)
   clear i8 k8 e8 r8 t8 o9 c8 f8
   go_upto_if 237 with (first
    | (go_at_call 34;have t_:Tk 3:=‹Tk 3›;refine (rblank_any b s8 d8 _ R8.out).mono ?_;rintro e w9 ⟨v9,x9,s9,d9,rfl,rfl,r9,l9,o9,t9⟩;have I9:=hid (I8.out.step t9);have L9:=hid (Nat.le_trans l9 hle8.out);have hle9:=L9;have kk9:=K8.out.only o9 hne;have ss9:=S8.out.stays (o9.stays hbB);have tt9:=T8.out.trans (o9.twoUp hcb);have gg9:=G8.out.below o9.low (Nat.le_of_lt hcb);have R9:=hid r9;have K9:=hid kk9;have T9:=hid tt9;have G9:=hid gg9;have S9:=hid ss9;clear r9 l9 o9 t9 kk9 ss9 tt9 gg9 <;> (clear t_ tok3;have tok4:Tk 4:=⟨⟩))
    | (go_at_call 33;obtain ⟨qk,hp10⟩:∃ k,Lib.hasPrefix s9 [40] = k:=⟨_,rfl⟩;have hse:=rsees_any 40 40 rfl b s9 d9 _ R9.out;rw [hp10] at hse;refine hse.mono ?_;clear hse;rintro e w10 ⟨rfl,he⟩;obtain rfl:=he.symm))
   cases qk with
   | true =>
    have I10:=hid (I9.out.to fun _=>sto_list hp10)
    clear I9 hp10
    have I9:=hid I10.out
    clear I10
    go_wp2_with (go_at_call 74;have t_:Tk 4:=‹Tk 4›;refine (rflags_l b s9 d9 _ R9.out).mono ?_;rintro e w11 ⟨v11,x11,s11,d11,rfl,⟨rfl,q11⟩,r11,l11,o11,t11⟩;have I11:=hid (I9.out.step t11);have L11:=hid (Nat.le_trans l11 hle9.out);have hle11:=L11;have kk11:=K9.out.only o11 hne;have ss11:=S9.out.stays (o11.stays hbB);have tt11:=T9.out.trans (o11.twoUp hcb);have gg11:=G9.out.below o11.low (Nat.le_of_lt hcb);have u11:=kk11.c7;have f11:=kk11.free 7;have R11:=hid (r11.near hcb gg11 (j:=7) (.int .i64 x11));have K11:=hid (kk11.set7 x11);have T11:=hid (tt11.trans (Two.near w11 hcb 7 (.int .i64 x11)));have G11:=hid (gg11.only (Only.set w11 c 7 (.int .i64 x11)));have e11:=ss11.stays ((setStays w11 c 7 (.int .i64 x11)).mono hcB);have S11:=hid (CmRows.as K11.out e11.set e11.names e11.items e11.keys e11.lit);clear e11;clear r11 l11 o11 t11 kk11 ss11 tt11 gg11 <;> (clear t_ tok4;have tok5:Tk 5:=⟨⟩))
    go_end0
    exact ⟨_,s11,d11,_,rfl,T11.out,R11.out,L11.out,K11.out,S11.out,I11.out.out,rfl⟩
   | false =>
    have I10:=hid (I9.out.to fun _=>flg_first hx7 hp10)
    clear I9 hp10
    have I9:=hid I10.out
    clear I10
    go_wp2_with (go_at_call 79;have t_:Tk 4:=‹Tk 4›;refine (rflag_any b s9 d9 _ R9.out).mono ?_;rintro e w11 ⟨v11,x11,s11,d11,rfl,⟨rfl,q11⟩,r11,l11,o11,t11⟩;have I11:=hid (I9.out.step t11);have L11:=hid (Nat.le_trans l11 hle9.out);have hle11:=L11;have kk11:=K9.out.only o11 hne;have ss11:=S9.out.stays (o11.stays hbB);have tt11:=T9.out.trans (o11.twoUp hcb);have gg11:=G9.out.below o11.low (Nat.le_of_lt hcb);have u11:=kk11.c7;have f11:=kk11.free 7;have R11:=hid (r11.near hcb gg11 (j:=7) (.int .i64 x11));have K11:=hid (kk11.set7 x11);have T11:=hid (tt11.trans (Two.near w11 hcb 7 (.int .i64 x11)));have G11:=hid (gg11.only (Only.set w11 c 7 (.int .i64 x11)));have e11:=ss11.stays ((setStays w11 c 7 (.int .i64 x11)).mono hcB);have S11:=hid (CmRows.as K11.out e11.set e11.names e11.items e11.keys e11.lit);clear e11;have M11:=hid l11;have Q11:=hid q11;clear r11 l11 o11 t11 kk11 ss11 tt11 gg11 <;> (clear t_ tok4;have tok5:Tk 5:=⟨⟩))
    go_loopw [] (fun wr=>∃ (f n:Nat) (t:Bt) (d:Bool),n < 32∧Inv bad R d (flgT (fun fl=>({ x with set:=x2,mode:=m,silent:=sl,flags:=fl }:Cm)) f n t)∧(d = false→t.length ≤ f)∧CmAt wr c { x with set:=x2,mode:=m,silent:=sl,flags:=n } { v with set:=.slice A2 x2.length m2 }∧CmRows B wr { x with set:=x2,mode:=m,silent:=sl,flags:=n } { v with set:=.slice A2 x2.length m2 }∧RtT wr b t d∧Two c b w wr∧t.length ≤ s.length) (fun wr=>rtM b wr)
    case atStart=>exact ⟨s9.length,x11,s11,d11,Q11.out,I11.out,fun _=>M11.out,K11.out,(have e:=S11.out;⟨e.set,e.names,e.items,e.keys,e.lit⟩),R11.out,T11.out,L11.out⟩
    case round =>
     obtain ⟨f,n,t,d,hn,hi,hf,hc,hv,hrt,ht,hl⟩:=hrel
     have JI:=hid hi
     have KC:=hid hc
     have SC:=hid hv
     have RT:=hid hrt
     have TC:=hid ht
     have LC:=hid hl
     have c1:=hrt.c1
     have FF:=hid hf
     clear hi hc hv hrt ht hl hf
     obtain ⟨kk,hkk⟩:∃ kk,Lib.hasPrefix t [32] = kk:=⟨_,rfl⟩
     have hse:=fun W hW=>rsees_any 32 32 rfl b t d W hW
     rw [hkk] at hse
     cases kk with
     | false =>
      have J2:=hid (JI.out.to fun _=>flg_end hkk)
      clear hkk
      go_wp2_with (go_at_call 33;refine (hse _ RT.out).mono ?_;rintro e w4 ⟨rfl,he⟩;obtain rfl:=he.symm)
      go_end0
      exact ⟨{ x with set:=x2,mode:=m,silent:=sl,flags:=n },t,d,{ v with set:=.slice A2 x2.length m2 },rfl,TC.out,RT.out,LC.out,KC.out,SC.out,J2.out.out,rfl⟩
     | true =>
      cases d with
      | true =>
       have J2:=hid (JI.out.to (K':=some ({ x with set:=x2,mode:=m,silent:=sl,flags:=n },t)) fun h=>by cases h)
       clear hkk
       go_wp2_with (go_at_call 33;refine (hse _ RT.out).mono ?_;rintro e w4 ⟨rfl,he⟩;obtain rfl:=he.symm)
       go_end0
       exact ⟨{ x with set:=x2,mode:=m,silent:=sl,flags:=n },t,true,{ v with set:=.slice A2 x2.length m2 },rfl,TC.out,RT.out,LC.out,KC.out,SC.out,J2.out.out,rfl⟩
      | false =>
       have hpos:=prefix_pos hkk
       have hff:=FF.out rfl
       obtain ⟨f,rfl⟩:∃ g,f = g + 1:=⟨f - 1,by omega⟩
       have J2:=hid (JI.out.to fun _=>flg_on hkk)
       have HF:=hid hff
       have hmw:=rtM_false RT.out
       clear hkk hff FF
       go_wp2_with (first
        | (go_at_call 33;refine (hse _ RT.out).mono ?_;rintro e w4 ⟨rfl,he⟩;obtain rfl:=he.symm)
        | (go_at_call 34;refine (rblank_any b t false _ RT.out).mono ?_;rintro e w12 ⟨v12,a12,s12,d12,rfl,rfl,r12,l12,o12,t12⟩;have k12:=KC.out.only o12 hne;have i7:w12.drew.cell? ⟨c,7,none⟩ = some (.int .i64 n):=k12.c7;have K12:=hid k12;have R12:=hid r12;have L12:=hid (Nat.le_trans l12 LC.out);have S12:=hid (SC.out.stays (o12.stays hbB));have T12:=hid (TC.out.trans (o12.twoUp hcb));have I12:=hid (J2.out.step t12);have Z12:=hid t12;clear k12 r12 l12 o12 t12))
       refine wp_region_held_drew (S:=fun _=>True) (by kernel_rfl) trivial (fun hHeld=>?_)
       refine wpAnyH_take (i:=0) (oi:=_) (v:=?vv0) rfl (by kernel_rfl) (by kernel_rfl) (by kernel_rfl) (fun _ _ _ h=>h) (Or.inl ⟨by rfl,?yv0⟩) (by assumption) ?rv0
       case yv0=>(intro w hSw;(try dsimp only at hSw);go_simp;try with_reducible rfl)
       try simp only [sxa,sxb,sxc,Act.put,sxd,sxe,sxf]
       refine wpAnyH_take (i:=1) (oi:=_) (v:=?vv1) rfl (by kernel_rfl) (by kernel_rfl) (by kernel_rfl) (fun _ _ _ h=>h) (Or.inl ⟨by rfl,?yv1⟩) (by assumption) ?rv1
       case yv1=>(intro w hSw;(try dsimp only at hSw);go_simp;try with_reducible rfl)
       try simp only [sxa,sxb,sxc,Act.put,sxd,sxe,sxf]
       refine wpAnyH_take (i:=2) (oi:=_) (v:=?vv2) rfl (by kernel_rfl) (by kernel_rfl) (by kernel_rfl) (fun _ _ _ h=>h) (Or.inl ⟨by rfl,?yv2⟩) (by assumption) ?rv2
       case yv2=>(intro w hSw;(try dsimp only at hSw);go_simp;try with_reducible rfl)
       try simp only [sxa,sxb,sxc,Act.put,sxd,sxe,sxf]
       refine wpAnyH_take (i:=3) (oi:=_) (v:=?vv3) rfl (by kernel_rfl) (by kernel_rfl) (by kernel_rfl) (fun _ _ _ h=>h) (Or.inl ⟨by rfl,?yv3⟩) (by assumption) ?rv3
       case yv3=>(intro w hSw;(try dsimp only at hSw);go_simp;try with_reducible rfl)
       try simp only [sxa,sxb,sxc,Act.put,sxd,sxe,sxf]
       refine wpAnyH_take (i:=5) (oi:=_) (v:=?vv5) rfl (by kernel_rfl) (by kernel_rfl) (by kernel_rfl) (fun _ _ _ h=>h) (Or.inl ⟨by rfl,?yv5⟩) (by assumption) ?rv5
       case yv5=>(intro w hSw;(try dsimp only at hSw);go_simp;try with_reducible rfl)
       try simp only [sxa,sxb,sxc,Act.put,sxd,sxe,sxf]
       refine wpAnyH_ready (rs:=[4,6]) (by kernel_rfl) (by simp) ?_
       refine AllReadyH.cons (o:=_) rfl (fun K hK=>?_) (AllReadyH.cons (o:=_) rfl (fun K hK=>?_) AllReadyH.nil)
       · go_simp
         refine hK.out _ _ ?hs1 (fun hHeld2=>?_)
         case hs1=>exact trivial
         clear hK K hHeld
         have hHeld:=hHeld2
         clear hHeld2
         try simp only [sxa,sxb,sxc,Act.put,sxd,sxe,sxf]
         refine wpAnyH_ready (rs:=[6]) (by kernel_rfl) (by simp) ?_
         refine AllReadyH.cons (o:=_) rfl (fun K hK=>?_) AllReadyH.nil
         go_simp
         refine (rflag_any b s12 d12 _ R12.out.drew).mono ?_
         rintro e w6 ⟨v6,i,s6,d6,rfl,⟨rfl,h32⟩,r6,l6,o6,t6⟩
         have O6:=Only.trans (Only.of (Below.refl w12.heap.size w12).drew (Nat.le_of_lt R12.out.lt)) o6
         have hor:=or_i64 n i hn h32
         have H32:=hid h32
         have k6:=K12.out.only O6 hne
         have i6:=k6.c7
         have j6:=k6.free 7
         have K6:=hid k6
         have R6:=hid r6
         have T6:=hid (T12.out.trans (O6.twoUp hcb))
         have S6:=hid (S12.out.stays (O6.stays hbB))
         have I6:=hid (I12.out.step t6)
         have L6:=hid l6
         have Z6:=hid t6
         clear k6 r6 o6 l6 t6 O6 h32
         go_wp2_with fail
         refine hK.out _ _ ?hs2 (fun hHeld2=>?_)
         case hs2=>exact trivial
         clear hK K hHeld
         have hHeld:=hHeld2
         clear hHeld2
         try simp only [sxa,sxb,sxc,Act.put,sxd,sxe,sxf]
         refine wpAnyH_take (i:=7) (oi:=_) (v:=?vt2_7) rfl (by kernel_rfl) (by kernel_rfl) (by kernel_rfl) (fun _ _ _ h=>h) (Or.inl ⟨by rfl,?yt2_7⟩) (by assumption) ?rt2_7
         case yt2_7=>(intro w hSw;(try dsimp only at hSw);go_simp;try with_reducible rfl)
         try simp only [sxa,sxb,sxc,Act.put,sxd,sxe,sxf]
         refine wpAnyH_take (i:=8) (oi:=_) (v:=?vt2_8) rfl (by kernel_rfl) (by kernel_rfl) (by kernel_rfl) (fun _ _ _ h=>h) (Or.inl ⟨by rfl,?yt2_8⟩) (by assumption) ?rt2_8
         case yt2_8=>(intro w hSw;(try dsimp only at hSw);go_simp;try with_reducible rfl)
         try simp only [sxa,sxb,sxc,Act.put,sxd,sxe,sxf]
         refine wpAnyH_take (i:=9) (oi:=_) (v:=?vt2_9) rfl (by kernel_rfl) (by kernel_rfl) (by kernel_rfl) (fun _ _ _ h=>h) (Or.inl ⟨by rfl,?yt2_9⟩) (by assumption) ?rt2_9
         case yt2_9=>(intro w hSw;(try dsimp only at hSw);go_simp;try with_reducible rfl)
         try simp only [sxa,sxb,sxc,Act.put,sxd,sxe,sxf]
         refine wpAnyH_ready (rs:=[10]) (by kernel_rfl) (by simp) ?_
         refine AllReadyH.cons (o:=_) rfl (fun K hK=>?_) AllReadyH.nil
         go_simp
         refine hK.out _ _ ?hs3 (fun hHeld2=>?_)
         case hs3=>exact trivial
         clear hK K hHeld
         have hHeld:=hHeld2
         clear hHeld2
         try simp only [sxa,sxb,sxc,Act.put,sxd,sxe,sxf]
         refine wpAnyH_done (by kernel_rfl) ?_ _
         go_wp2_with fail
         have e6:=S6.out.stays ((setStays w6 c 7 (.int .i64 ((n ||| i:Nat):Int))).mono hcB)
         have hfl:d6 = false→s6.length + 1 ≤ t.length:=fun hd=>by
          have h9:d12 = false:=by
           cases hd9:d12 with
           | false=>rfl
           | true=>rw [hd9] at Z6;have h0:=Z6.out.1 rfl;rw [hd] at h0;cases h0
          have h8:=signR_len (Z12.out.2.2 rfl h9)
          have:=L6.out
          omega
         have hT6:=T6.out.trans (Two.near w6 hcb 7 (.int .i64 ((n ||| i:Nat):Int)))
         have hR6:=R6.out.near hcb (G0.out.two T6.out) (j:=7) (.int .i64 ((n ||| i:Nat):Int))
         refine ⟨⟨f,n ||| i,s6,d6,or_lt n i hn H32.out,I6.out,fun hd=>?_,K6.out.set7 (n ||| i),⟨e6.set,e6.names,e6.items,e6.keys,e6.lit⟩,hR6,hT6,?_⟩,?_⟩
         · have:=hfl hd
           have:=HF.out
           omega
         · have:=L6.out
           have:=L12.out
           omega
         · rw [hmw]
           cases hd:d6 with
           | true=>rw [hd] at hR6;rw [rtM_true hR6];omega
           | false=>have:=hfl hd;rw [hd] at hR6;rw [rtM_false hR6];omega
       · go_simp
         refine (rflag_any b s12 d12 _ R12.out.drew).mono ?_
         rintro e w6 ⟨v6,i,s6,d6,rfl,⟨rfl,h32⟩,r6,l6,o6,t6⟩
         have O6:=Only.trans (Only.of (Below.refl w12.heap.size w12).drew (Nat.le_of_lt R12.out.lt)) o6
         have hor:=or_i64 n i hn h32
         have H32:=hid h32
         have k6:=K12.out.only O6 hne
         have i6:=k6.c7
         have j6:=k6.free 7
         have K6:=hid k6
         have R6:=hid r6
         have T6:=hid (T12.out.trans (O6.twoUp hcb))
         have S6:=hid (S12.out.stays (O6.stays hbB))
         have I6:=hid (I12.out.step t6)
         have L6:=hid l6
         have Z6:=hid t6
         clear k6 r6 o6 l6 t6 O6 h32
         go_wp2_with fail
         refine hK.out _ _ ?hs4 (fun hHeld2=>?_)
         case hs4=>exact trivial
         clear hK K hHeld
         have hHeld:=hHeld2
         clear hHeld2
         try simp only [sxa,sxb,sxc,Act.put,sxd,sxe,sxf]
         refine wpAnyH_ready (rs:=[4]) (by kernel_rfl) (by simp) ?_
         refine AllReadyH.cons (o:=_) rfl (fun K hK=>?_) AllReadyH.nil
         go_simp
         refine hK.out _ _ ?hs5 (fun hHeld2=>?_)
         case hs5=>exact trivial
         clear hK K hHeld
         have hHeld:=hHeld2
         clear hHeld2
         try simp only [sxa,sxb,sxc,Act.put,sxd,sxe,sxf]
         refine wpAnyH_take (i:=7) (oi:=_) (v:=?vt5_7) rfl (by kernel_rfl) (by kernel_rfl) (by kernel_rfl) (fun _ _ _ h=>h) (Or.inl ⟨by rfl,?yt5_7⟩) (by assumption) ?rt5_7
         case yt5_7=>(intro w hSw;(try dsimp only at hSw);go_simp;try with_reducible rfl)
         try simp only [sxa,sxb,sxc,Act.put,sxd,sxe,sxf]
         refine wpAnyH_take (i:=8) (oi:=_) (v:=?vt5_8) rfl (by kernel_rfl) (by kernel_rfl) (by kernel_rfl) (fun _ _ _ h=>h) (Or.inl ⟨by rfl,?yt5_8⟩) (by assumption) ?rt5_8
         case yt5_8=>(intro w hSw;(try dsimp only at hSw);go_simp;try with_reducible rfl)
         try simp only [sxa,sxb,sxc,Act.put,sxd,sxe,sxf]
         refine wpAnyH_take (i:=9) (oi:=_) (v:=?vt5_9) rfl (by kernel_rfl) (by kernel_rfl) (by kernel_rfl) (fun _ _ _ h=>h) (Or.inl ⟨by rfl,?yt5_9⟩) (by assumption) ?rt5_9
         case yt5_9=>(intro w hSw;(try dsimp only at hSw);go_simp;try with_reducible rfl)
         try simp only [sxa,sxb,sxc,Act.put,sxd,sxe,sxf]
         refine wpAnyH_ready (rs:=[10]) (by kernel_rfl) (by simp) ?_
         refine AllReadyH.cons (o:=_) rfl (fun K hK=>?_) AllReadyH.nil
         go_simp
         refine hK.out _ _ ?hs6 (fun hHeld2=>?_)
         case hs6=>exact trivial
         clear hK K hHeld
         have hHeld:=hHeld2
         clear hHeld2
         try simp only [sxa,sxb,sxc,Act.put,sxd,sxe,sxf]
         refine wpAnyH_done (by kernel_rfl) ?_ _
         go_wp2_with fail
         have e6:=S6.out.stays ((setStays w6 c 7 (.int .i64 ((n ||| i:Nat):Int))).mono hcB)
         have hfl:d6 = false→s6.length + 1 ≤ t.length:=fun hd=>by
          have h9:d12 = false:=by
           cases hd9:d12 with
           | false=>rfl
           | true=>rw [hd9] at Z6;have h0:=Z6.out.1 rfl;rw [hd] at h0;cases h0
          have h8:=signR_len (Z12.out.2.2 rfl h9)
          have:=L6.out
          omega
         have hT6:=T6.out.trans (Two.near w6 hcb 7 (.int .i64 ((n ||| i:Nat):Int)))
         have hR6:=R6.out.near hcb (G0.out.two T6.out) (j:=7) (.int .i64 ((n ||| i:Nat):Int))
         refine ⟨⟨f,n ||| i,s6,d6,or_lt n i hn H32.out,I6.out,fun hd=>?_,K6.out.set7 (n ||| i),⟨e6.set,e6.names,e6.items,e6.keys,e6.lit⟩,hR6,hT6,?_⟩,?_⟩
         · have:=hfl hd
           have:=HF.out
           omega
         · have:=L6.out
           have:=L12.out
           omega
         · rw [hmw]
           cases hd:d6 with
           | true=>rw [hd] at hR6;rw [rtM_true hR6];omega
           | false=>have:=hfl hd;rw [hd] at hR6;rw [rtM_false hR6];omega
end Go.Proofs.YtfdmdmahddjjmaaGreatDoor
