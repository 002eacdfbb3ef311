/-
  Joined texts: RfR RfS.
-/
import Derived.Test.YtfdmdmahddjjmaaGreatDoorPkRp
import Derived.Test.YtfdmdmahddjjmaaGreatDoorPkIm3
import Derived.Test.YtfdmdmahddjjmaaGreatDoorPkRP
import Derived.Deep.CutBlock
import Derived.Deep.DeepCutAuto
set_option linter.unusedVariables false
set_option linter.unusedSimpArgs false
set_option maxRecDepth 100000
namespace Go.Proofs.YtfdmdmahddjjmaaGreatDoor
open Go.RowKit Own Im
attribute [local go_sem] str_toList str_size
theorem sign_two (c d:UInt8) (s:Bt):sign [c,d] s = (sign [c] s).bind (sign [d]):=by
 cases s with
 | nil=>simp [sign,Lib.hasPrefix,List.isPrefixOf]
 | cons e t =>
  rw [sign_cons]
  by_cases h:e = c
  · subst h
    rw [if_pos rfl,Option.bind_some]
    cases t with
    | nil=>simp [sign,Lib.hasPrefix,List.isPrefixOf]
    | cons g t =>
     rw [sign_cons]
     unfold sign Lib.hasPrefix
     by_cases h2:g = d
     · subst h2;simp [List.isPrefixOf]
     · simp [List.isPrefixOf,h2,Ne.symm h2]
  · rw [if_neg h]
    unfold sign Lib.hasPrefix
    simp [List.isPrefixOf,h,Ne.symm h]
def rstatE (x:Cm) (u:List Bt × Bt):Option (Cm × Bt):=(signR 41 u.2).bind fun q=>some ({ x with names:=u.1 },q.2)
theorem status_ref {x:Cm} (h:x.names = []) (s:Bt):statusF x s = ((signR 32 s).bind fun q=>(Im.text atomB q.2).bind fun r=>(signR 32 r.2).bind fun q2=>(signR 40 q2.2).bind fun q3=>(statusL (q3.2.length + 1) [] q3.2).bind (rstatE { x with box:=r.1 })):=by
 unfold statusF then_ signR
 rw [h]
 cases sign [32] s with
 | none=>rfl
 | some q =>
  simp only [Option.bind_some,Option.map_some]
  cases Im.text atomB q with
  | none=>rfl
  | some r =>
   simp only [Option.bind_some]
   rw [sign_two]
   cases sign [32] r.2 with
   | none=>rfl
   | some q2 =>
    simp only [Option.bind_some,Option.map_some]
    cases sign [40] q2 with
    | none=>rfl
    | some q3 =>
     simp only [Option.bind_some,Option.map_some]
     congr 1
     funext u
     unfold rstatE signR
     cases sign [41] u.2 <;> rfl
def statT (f:Nat) (l:List Bt) (t:Bt):Option (List Bt × Bt):=if (takes [32] t).1 = true then statusL f l (takes [32] t).2 else some (l,t)
theorem status_guard {f:Nat} {l:List Bt} {t wd t1:Bt} {F:List Bt × Bt→Option (Cm × Bt)} (hw:Im.word t = (wd,t1)):(statusL (f + 1) l t).bind F = if (!statusNames.contains wd) = true then none else (statT f (l ++ [wd]) t1).bind F:=by
 obtain ⟨k,r,hk⟩:∃ k r,takes [32] t1 = (k,r):=⟨_,_,rfl⟩
 cases hc:statusNames.contains wd with
 | false=>rw [statusL_none hw hc];rfl
 | true =>
  unfold statT
  cases k with
  | true=>rw [statusL_on hw hc hk,hk];rfl
  | false=>rw [statusL_end hw hc hk,hk];rfl
theorem stat_par {f:Nat} {l:List Bt} {t:Bt} {x:Cm} (h:Lib.hasPrefix t [41] = true):(statT f l t).bind (rstatE x) = (signR 41 t).bind fun q=>some ({ x with names:=l },q.2):=by
 have hk:takes [32] t = (false,t):=by
  rw [takes_one]
  cases t with
  | nil=>rw [prefix_nil];rfl
  | cons c r =>
   rw [prefix_one] at h ⊢
   have:c = 41:=of_decide_eq_true h
   subst this
   rfl
 unfold statT
 rw [hk]
 rfl
theorem stat_on {f:Nat} {l:List Bt} {t:Bt} {x:Cm} (h:Lib.hasPrefix t [41] = false):(statT f l t).bind (rstatE x) = (signR 32 t).bind fun q=>(statusL f l q.2).bind (rstatE x):=by
 rw [signR_bind]
 unfold statT
 cases hk:Lib.hasPrefix t [32] with
 | true =>
  have h1:takes [32] t = (true,t.drop 1):=by rw [takes_one,hk];rfl
  have h2:sign [32] t = some (t.drop 1):=by unfold sign;rw [if_pos hk];rfl
  rw [h1,h2]
  rfl
 | false =>
  have h1:takes [32] t = (false,t):=by rw [takes_one,hk];rfl
  have h2:sign [32] t = none:=by unfold sign;rw [if_neg (by rw [hk];simp)]
  have h3:signR 41 t = none:=by unfold signR sign;rw [if_neg (by rw [h];simp)];rfl
  rw [h1,h2]
  show rstatE x (l,t) = _
  unfold rstatE
  dsimp only
  rw [h3]
  rfl
set_option maxHeartbeats 4000000 in
theorem rest_status:RestC [83,84,65,84,85,83] (readF 5):=by
 intro b c B s bad x v w h hg hc hv hcb hbB hB hwd hx7 hx8 hx6 hx11
 have hne:c ≠ b:=by omega
 have hcB:c < B:=by omega
 have h1:w.cell? ⟨c,1,none⟩ = some (.string (str [83,84,65,84,85,83])):=by rw [← hwd];exact hc.c1
 have H:=hid h
 have G0:=hid hg
 have K0:=hid hc
 have S0:=hid hv
 have T0:=hid (Two.refl c b w)
 have W0:=hid hwd
 clear h hg hc hv hwd
 obtain ⟨R,hR⟩:∃ R,R = (readF 5) x s:=⟨_,rfl⟩
 rw [← hR]
 have I0:=hid ((Inv.start bad R).to (K':=(signR 32 s).bind fun q=>(Im.text atomB q.2).bind fun r=>(signR 32 r.2).bind fun q2=>(signR 40 q2.2).bind fun q3=>(statusL (q3.2.length + 1) [] q3.2).bind (rstatE { x with box:=r.1 })) fun _=>hR.trans (by show statusF x s = _;exact status_ref hx6.1 s))
 have hrun:RunC b 1 atomB:=fun s bad W h=>rrun1_any b s bad W h
 have tok0:Tk 0:=⟨⟩
 have L0:s.length ≤ s.length:=Nat.le_refl _
 have R0:=H
 have hle0:=hid L0
 clear hR
 go_enter Tryz.func36,Tryz.ntmps36
 go_wp2_with (first
  | (go_at_call 34;have t_:Tk 0:=‹Tk 0›;refine (rblank_any b s bad _ R0.out).mono ?_;rintro e w1 ⟨v1,x1,s1,d1,rfl,rfl,r1,l1,o1,t1⟩;have I1:=hid (I0.out.step t1);have L1:=hid (Nat.le_trans l1 hle0.out);have hle1:=L1;have kk1:=K0.out.only o1 hne;have ss1:=S0.out.stays (o1.stays hbB);have tt1:=T0.out.trans (o1.twoUp hcb);have gg1:=G0.out.below o1.low (Nat.le_of_lt hcb);have R1:=hid r1;have K1:=hid kk1;have T1:=hid tt1;have G1:=hid gg1;have S1:=hid ss1;have c11:=kk1.c1;rw [W0.out] at c11;clear r1 l1 o1 t1 kk1 ss1 tt1 gg1 <;> (clear t_ tok0;have tok1:Tk 1:=⟨⟩))
  | (go_at_call 73;have t_:Tk 1:=‹Tk 1›;refine (rany_any 1 atomB b hrun s1 d1 _ R1.out).mono ?_;rintro e w2 ⟨v2,x2,s2,d2,rfl,rfl,r2,l2,o2,t2⟩;have I2:=hid (I1.out.step t2);have L2:=hid (Nat.le_trans l2 hle1.out);have hle2:=L2;have kk2:=K1.out.only o2 hne;have ss2:=S1.out.stays (o2.stays hbB);have tt2:=T1.out.trans (o2.twoUp hcb);have gg2:=G1.out.below o2.low (Nat.le_of_lt hcb);have u2:=kk2.c4;have f2:=kk2.free 4;have R2:=hid (r2.near hcb gg2 (j:=4) (.string (str x2)));have K2:=hid (kk2.set4 x2);have T2:=hid (tt2.trans (Two.near w2 hcb 4 (.string (str x2))));have G2:=hid (gg2.only (Only.set w2 c 4 (.string (str x2))));have e2:=ss2.stays ((setStays w2 c 4 (.string (str x2))).mono hcB);have S2:=hid (CmRows.as K2.out e2.set e2.names e2.items e2.keys e2.lit);clear e2;clear r2 l2 o2 t2 kk2 ss2 tt2 gg2 <;> (clear t_ tok1;have tok2:Tk 2:=⟨⟩))
  | (go_at_call 34;have t_:Tk 2:=‹Tk 2›;refine (rblank_any b s2 d2 _ R2.out).mono ?_;rintro e w3 ⟨v3,x3,s3,d3,rfl,rfl,r3,l3,o3,t3⟩;have I3:=hid (I2.out.step t3);have L3:=hid (Nat.le_trans l3 hle2.out);have hle3:=L3;have kk3:=K2.out.only o3 hne;have ss3:=S2.out.stays (o3.stays hbB);have tt3:=T2.out.trans (o3.twoUp hcb);have gg3:=G2.out.below o3.low (Nat.le_of_lt hcb);have R3:=hid r3;have K3:=hid kk3;have T3:=hid tt3;have G3:=hid gg3;have S3:=hid ss3;clear r3 l3 o3 t3 kk3 ss3 tt3 gg3 <;> (clear t_ tok2;have tok3:Tk 3:=⟨⟩))
  | (go_at_call 72;have t_:Tk 3:=‹Tk 3›;refine (rsign_any 40 40 rfl b s3 d3 _ R3.out).mono ?_;rintro e w4 ⟨v4,x4,s4,d4,rfl,rfl,r4,l4,o4,t4⟩;have I4:=hid (I3.out.step t4);have L4:=hid (Nat.le_trans l4 hle3.out);have hle4:=L4;have kk4:=K3.out.only o4 hne;have ss4:=S3.out.stays (o4.stays hbB);have tt4:=T3.out.trans (o4.twoUp hcb);have gg4:=G3.out.below o4.low (Nat.le_of_lt hcb);have R4:=hid r4;have K4:=hid kk4;have T4:=hid tt4;have G4:=hid gg4;have S4:=hid ss4;clear r4 l4 o4 t4 kk4 ss4 tt4 gg4 <;> (clear t_ tok3;have tok4:Tk 4:=⟨⟩)))
 have i4:Inv bad R d4 ((statusL (s4.length + 1) [] s4).bind (rstatE { x with box:=x2 })):=I4.out
 have hl4:=R4.out.len
 have hbw:b < w.heap.size:=by omega
 have hcw:c + 1 ≤ w.heap.size:=by omega
 go_loopw [] (fun wr=>∃ (f:Nat) (l:List Bt) (vn:Value) (t:Bt) (d:Bool),Inv bad R d ((statusL f l t).bind (rstatE { x with box:=x2 }))∧(d = false→t.length < f∧l.length + t.length ≤ 100000000)∧l.length ≤ 100000001∧CmAt wr c { x with box:=x2,names:=l } { v with names:=vn }∧CmRows B wr { x with box:=x2,names:=l } { v with names:=vn }∧SBuf w.heap.size wr vn l∧RtT wr b t d∧Two c b w wr∧t.length ≤ s.length) (fun wr=>rtM b wr)
 case atStart =>
  refine ⟨_,[],v.names,s4,d4,i4,fun _=>⟨Nat.lt_succ_self _,by simp;omega⟩,by simp,(show CmAt w4 c _ _ from K4.out),(have e:=S4.out;⟨e.set,?_,e.items,e.keys,e.lit⟩),?_,R4.out,T4.out,L4.out⟩
  · have h:=e.names
    dsimp only at h
    rwa [hx6.1] at h
  · rw [hx6.2]
    exact SBuf.nil T4.out.size
 case round =>
  obtain ⟨f,l,vn,t,d,hi,hf,hll,hc,hv,hnb,hrt,ht,hl⟩:=hrel
  have JI:=hid hi
  have KC:=hid hc
  have SC:=hid hv
  have NB:=hid hnb
  have RT:=hid hrt
  have TC:=hid ht
  have L0':=hid hl
  have c1:=hrt.c1
  clear hi hc hv hnb hrt ht hl i4
  cases d with
  | true =>
   have J2:=hid (JI.out.to (K':=(signR 41 t).bind fun q=>some ({ x with box:=x2,names:=l },q.2)) fun h=>by cases h)
   go_wp2_with (go_at_call 72;refine (rsign_any 41 41 rfl b t true _ RT.out).mono ?_;rintro e w9 ⟨v9,a9,s9,d9,rfl,rfl,r9,l9,o9,t9⟩;have I9:=hid (J2.out.step t9);have R9:=hid r9;have L9:=hid (Nat.le_trans l9 (L0'.out));have K9:=hid (KC.out.only o9 hne);have S9:=hid (SC.out.stays (o9.stays hbB));have T9:=hid (TC.out.trans (o9.twoUp hcb));clear r9 l9 o9 t9)
   go_end0
   exact ⟨{ x with box:=x2,names:=l },s9,d9,{ v with names:=vn },rfl,T9.out,R9.out,L9.out,K9.out,S9.out,I9.out.out,rfl⟩
  | false =>
   obtain ⟨hf1,hf2⟩:=hf rfl
   obtain ⟨f,rfl⟩:∃ k,f = k + 1:=⟨f - 1,by omega⟩
   have hmw:=rtM_false RT.out
   have F1:=hid hf1
   have F2:=hid hf2
   obtain ⟨wd,t1,hw⟩:∃ wd t1,Im.word t = (wd,t1):=⟨_,_,rfl⟩
   have hwd:=fun W hW=>rword_any b t false W hW
   have hle:=word_le t
   rw [hw] at hwd hle
   dsimp only at hwd hle
   have J1:=hid (JI.out.to fun _=>status_guard (F:=rstatE { x with box:=x2 }) hw)
   clear hf hf1 hf2 hw
   go_upto_region 35 with (go_at_call 32;refine (hwd _ RT.out).mono ?_;rintro e w5 ⟨rfl,r5,o5⟩;have c5:=r5.c1;have f5:=r5.free 1;have R5:=hid r5;have K5:=hid (KC.out.only o5 hne);have S5:=hid (SC.out.stays (o5.stays hbB));have N5:=hid (NB.out.stays (o5.stays hbw));have T5:=hid (TC.out.trans (o5.twoUp hcb));clear r5 o5)
   go_cut [] from 98 to 120 (fun wx=>wx = w5.setCell ⟨b,1,none⟩ (.bool (!statusNames.contains wd)))
   case first =>
    have hq:((wd == [77,69,83,83,65,71,69,83]) = true∧statusNames.contains wd = true)∨((wd == [77,69,83,83,65,71,69,83]) = false∧(wd == [85,73,68,78,69,88,84]) = true∧statusNames.contains wd = true)∨((wd == [77,69,83,83,65,71,69,83]) = false∧(wd == [85,73,68,78,69,88,84]) = false∧(wd == [85,73,68,86,65,76,73,68,73,84,89]) = true∧statusNames.contains wd = true)∨((wd == [77,69,83,83,65,71,69,83]) = false∧(wd == [85,73,68,78,69,88,84]) = false∧(wd == [85,73,68,86,65,76,73,68,73,84,89]) = false∧(wd == [85,78,83,69,69,78]) = true∧statusNames.contains wd = true)∨((wd == [77,69,83,83,65,71,69,83]) = false∧(wd == [85,73,68,78,69,88,84]) = false∧(wd == [85,73,68,86,65,76,73,68,73,84,89]) = false∧(wd == [85,78,83,69,69,78]) = false∧statusNames.contains wd = false):=by
     have hcon:statusNames.contains wd = ((wd == [77,69,83,83,65,71,69,83]) || ((wd == [85,73,68,78,69,88,84]) || ((wd == [85,73,68,86,65,76,73,68,73,84,89]) || (wd == [85,78,83,69,69,78])))):=by simp only [statusNames,List.contains_cons,List.contains_nil,Bool.or_false]
     rw [hcon]
     cases (wd == [77,69,83,83,65,71,69,83]) <;> cases (wd == [85,73,68,78,69,88,84]) <;> cases (wd == [85,73,68,86,65,76,73,68,73,84,89]) <;> cases (wd == [85,78,83,69,69,78]) <;> simp
    rcases hq with ⟨e0,hcn⟩ | ⟨e0,e1,hcn⟩ | ⟨e0,e1,e2,hcn⟩ | ⟨e0,e1,e2,e3,hcn⟩ | ⟨e0,e1,e2,e3,hcn⟩
    all_goals
     have HCN:=hid hcn
     clear hcn
     go_wp2_with fail
     go_meet
     rw [HCN.out]
     rfl
   case rest =>
    obtain rfl:=hcut
    obtain ⟨kb,hkb⟩:∃ kb,(!statusNames.contains wd) = kb:=⟨_,rfl⟩
    have j1:=J1.out
    rw [hkb] at j1
    have I6:Hid (Inv bad R kb ((statT f (l ++ [wd]) t1).bind (rstatE { x with box:=x2 }))):=hid j1.guard
    rw [hkb]
    clear hkb j1
    obtain ⟨W,hW⟩:∃ W,W = w5.setCell ⟨b,1,none⟩ (.bool kb):=⟨_,rfl⟩
    have o6:Only b w5 W:=by rw [hW];exact Only.set _ _ _ _
    have R6:Hid (RtT W b t1 kb):=hid (by rw [hW];exact R5.out.set1 kb)
    rw [← hW]
    clear hW
    have k6:=K5.out.only o6 hne
    have u6:=k6.c6
    have u7:=fun ob=>keep_below ((Below.refl W.heap.size W).alloc (Nat.le_refl _) ob) rfl k6.c6
    have K6:=hid k6
    have S6:=hid (S5.out.stays (o6.stays hbB))
    have N6:=hid (N5.out.stays (o6.stays hbw))
    have T6:=hid (T5.out.trans (o6.twoUp hcb))
    have hB6:w.heap.size ≤ W.heap.size:=T6.out.size
    clear k6 o6 c5 f5
    go_wp2_with (first
     | (at_builtin;go_loud (refine wpList_tbuf w.heap.size _ (by rfl) _ _ (by rfl) _ l wd (by rfl) (N6.out.alloc _) _ 1 (by rfl) (slit _ wd _ _ _ (by simp) rfl) (by omega) ?_);intro v7 w7 hb7 hbel7 hg7;obtain ⟨A7,n7,c7,rfl⟩:=hb7.slc;have m7:=((Below.refl w.heap.size W).alloc hB6 _).trans hbel7;have k7:=K6.out.below' m7 (by omega);have f7:=k7.free 6;have u8:=k7.c6;have K7:=hid k7;have R7:=hid (R6.out.below' m7 hbw);have T7:=hid (T6.out.below m7 hcw (Nat.le_refl _));have S7:=hid ((S6.out.stays (Below.stays ((Below.refl _ _).alloc (Nat.le_refl _) _))).namesGrown hg7 (GBuf.mono hb7 hB));have N7:=hid hb7;clear hb7 hbel7 hg7 m7 k7)
     | (go_at_call 33;have R8:=hid (R7.out.near hcb (G0.out.two T7.out) (j:=6) (.slice A7 n7 c7));have K8:=hid (K7.out.set6 (.slice A7 n7 c7) (l ++ [wd]));have e8:=S7.out.stays ((setStays w7 c 6 (.slice A7 n7 c7)).mono hcB);have S8:Hid (CmRows B (w7.setCell ⟨c,6,none⟩ (.slice A7 n7 c7)) { x with box:=x2,names:=l ++ [wd] } { v with names:=.slice A7 n7 c7 }):=hid ⟨e8.set,e8.names,e8.items,e8.keys,e8.lit⟩;have N8:=hid (N7.out.stays ((setStays w7 c 6 (.slice A7 n7 c7)).mono hcw));have T8:=hid (T7.out.trans (Two.near w7 hcb 6 (.slice A7 n7 c7)));obtain ⟨k8,hk8⟩:∃ k8,Lib.hasPrefix t1 [41] = k8:=⟨_,rfl⟩;have hse:=rsees_any 41 41 rfl b t1 kb _ R8.out;rw [hk8] at hse;refine hse.mono ?_;clear hse e8;rintro e w8 ⟨rfl,he⟩;obtain rfl:=he.symm;cases k8 <;> (first | (have I7:=hid (I6.out.to fun _=>stat_par hk8);clear hk8) | (have I7:=hid (I6.out.to fun _=>stat_on hk8);clear hk8)))
     | (go_at_call 34;refine (rblank_any b t1 kb _ R8.out).mono ?_;rintro e w9 ⟨v9,a9,s9,d9,rfl,rfl,r9,l9,o9,t9⟩;have R9:=hid r9;have L9:=hid l9;have T9':=hid t9;have K9:=hid (K8.out.only o9 hne);have S9:=hid (S8.out.stays (o9.stays hbB));have N9:=hid (N8.out.stays (o9.stays hbw));have T9:=hid (T8.out.trans (o9.twoUp hcb));clear r9 l9 o9 t9)
     | (go_at_call 72;refine (rsign_any 41 41 rfl b t1 kb _ R8.out).mono ?_;rintro e w9 ⟨v9,a9,s9,d9,rfl,rfl,r9,l9,o9,t9⟩;have I9:=hid (I7.out.step t9);have R9:=hid r9;have L9:=hid (Nat.le_trans l9 (Nat.le_refl _));have K9:=hid (K8.out.only o9 hne);have S9:=hid (S8.out.stays (o9.stays hbB));have T9:=hid (T8.out.trans (o9.twoUp hcb));clear r9 l9 o9 t9))
    · have I9:=I7.out.step T9'.out
      have hfl:d9 = false→s9.length + 1 = t1.length:=fun hd=>by
       have h6:kb = false:=by
        cases kb with
        | false=>rfl
        | true=>rw [T9'.out.1 rfl] at hd;cases hd
       exact signR_len (T9'.out.2.2 h6 hd)
      have l9:=L9.out
      have l0:=L0'.out
      have f1:=F1.out
      have f2:=F2.out
      refine ⟨⟨f,l ++ [wd],.slice A7 n7 c7,s9,d9,I9,fun hd=>⟨by have:=hfl hd;omega,by have:=hfl hd;simp;omega⟩,by simp;omega,K9.out,S9.out,N9.out,R9.out,T9.out,by omega⟩,?_⟩
      rw [hmw]
      cases d9 with
      | true=>rw [rtM_true R9.out];omega
      | false=>rw [rtM_false R9.out];have:=hfl rfl;omega
    · go_end0
      exact ⟨{ x with box:=x2,names:=l ++ [wd] },s9,d9,{ v with names:=.slice A7 n7 c7 },rfl,T9.out,R9.out,(by have:=L9.out;have:=L0'.out;omega),K9.out,S9.out,I9.out.out,rfl⟩
end Go.Proofs.YtfdmdmahddjjmaaGreatDoor
namespace Go.Proofs.YtfdmdmahddjjmaaGreatDoor
open Go.RowKit Own Im
attribute [local go_sem] str_toList str_size
theorem app_ref (x:Cm) (s:Bt):appendF x s = ((signR 32 s).bind fun q=>(Im.text atomB q.2).bind fun r=>(signR 32 r.2).bind fun q2=>(apL x.flags q2.2).bind fun u=>apT1 r.1 x u.1 u.2):=by
 unfold appendF then_ signR
 cases sign [32] s with
 | none=>rfl
 | some q =>
  simp only [Option.bind_some,Option.map_some]
  cases Im.text atomB q with
  | none=>rfl
  | some r =>
   simp only [Option.bind_some]
   cases sign [32] r.2 with
   | none=>rfl
   | some q2=>rfl
theorem app_list {n:Nat} {x1:Bt} {x:Cm} {s:Bt} (h:Lib.hasPrefix s [40] = true):((apL n s).bind fun u=>apT1 x1 x u.1 u.2) = (Im.list s).bind fun r=>(signR 32 r.2).bind fun q=>apT1 x1 x r.1 q.2:=by
 unfold apL
 rw [if_pos h]
 cases Im.list s with
 | none=>rfl
 | some r =>
  simp only [Option.bind_some]
  rw [signR_bind]
  cases sign [32] r.2 <;> rfl
theorem app_quote {x1:Bt} {x:Cm} {fl:Nat} {s:Bt} (h:Lib.hasPrefix s [34] = true):apT1 x1 x fl s = (Im.quoted s).bind fun u=>if ((St.parseP u.1).2 != 0) = true then none else (signR 32 u.2).bind fun q=>apT2 x1 x fl (St.parseP u.1).1 q.2:=by
 unfold apT1 apQ
 rw [if_pos h]
 cases Im.quoted s with
 | none=>rfl
 | some u =>
  simp only [Option.bind_some]
  by_cases hp:(St.parseP u.1).2 = 0
  · rw [if_pos hp,if_neg (by simp [hp]),signR_bind]
    cases sign [32] u.2 <;> rfl
  · rw [if_neg hp,if_pos (by simpa using hp)]
    rfl
theorem app_bare {x1:Bt} {x:Cm} {fl:Nat} {s:Bt} (h:Lib.hasPrefix s [34] = false):apT1 x1 x fl s = apT2 x1 x fl (-1) s:=by
 unfold apT1 apQ
 rw [if_neg (by rw [h];simp)]
 rfl
theorem app_lit (x1:Bt) (x:Cm) (fl:Nat) (d:Int) (s:Bt):apT2 x1 x fl d s = (literal s).bind fun u=>some ({ x with date:=d,box:=x1,flags:=fl,lit:=u.1 },u.2):=by
 unfold apT2
 cases literal s <;> rfl
set_option maxHeartbeats 4000000 in
theorem rest_append:RestC [65,80,80,69,78,68] (readF 6):=by
 intro b c B s bad x v w h hg hc hv hcb hbB hB hwd hx7 hx8 hx6 hx11
 have hne:c ≠ b:=by omega
 have hcB:c < B:=by omega
 have h1:w.cell? ⟨c,1,none⟩ = some (.string (str [65,80,80,69,78,68])):=by rw [← hwd];exact hc.c1
 have H:=hid h
 have G0:=hid hg
 have K0:=hid hc
 have S0:=hid hv
 have T0:=hid (Two.refl c b w)
 have W0:=hid hwd
 clear h hg hc hv hwd
 obtain ⟨R,hR⟩:∃ R,R = (readF 6) x s:=⟨_,rfl⟩
 rw [← hR]
 have I0:=hid ((Inv.start bad R).to (K':=(signR 32 s).bind fun q=>(Im.text atomB q.2).bind fun r=>(signR 32 r.2).bind fun q2=>(apL x.flags q2.2).bind fun u=>apT1 r.1 x u.1 u.2) fun _=>hR.trans (by show appendF x s = _;exact app_ref x s))
 have hrun:RunC b 1 atomB:=fun s bad W h=>rrun1_any b s bad W h
 have kc:=fun (W:World) (s:ByteArray)=>Lib.run_convert_string_bytes (P:=Tryz.prog) W 9 28 5 s Tryz.underlying9 Tryz.underlying28 Tryz.underlying5
 have tok0:Tk 0:=⟨⟩
 have L0:s.length ≤ s.length:=Nat.le_refl _
 have R0:=H
 have hle0:=hid L0
 clear hR
 go_enter Tryz.func36,Tryz.ntmps36
 go_upto_region 44 with (first
  | (go_at_call 34;have t_:Tk 0:=‹Tk 0›;refine (rblank_any b s bad _ R0.out).mono ?_;rintro e w1 ⟨v1,x1,s1,d1,rfl,rfl,r1,l1,o1,t1⟩;have I1:=hid (I0.out.step t1);have L1:=hid (Nat.le_trans l1 hle0.out);have hle1:=L1;have kk1:=K0.out.only o1 hne;have ss1:=S0.out.stays (o1.stays hbB);have tt1:=T0.out.trans (o1.twoUp hcb);have gg1:=G0.out.below o1.low (Nat.le_of_lt hcb);have u1:=kk1.c12;have f1:=kk1.free 12;have R1:=hid (r1.near hcb gg1 (j:=12) (.int .i64 (-1)));have K1:=hid (kk1.set12 (-1));have T1:=hid (tt1.trans (Two.near w1 hcb 12 (.int .i64 (-1))));have G1:=hid (gg1.only (Only.set w1 c 12 (.int .i64 (-1))));have e1:=ss1.stays ((setStays w1 c 12 (.int .i64 (-1))).mono hcB);have S1:=hid (CmRows.as K1.out e1.set e1.names e1.items e1.keys e1.lit);clear e1;have c11:=kk1.c1;rw [W0.out] at c11;clear r1 l1 o1 t1 kk1 ss1 tt1 gg1 <;> (clear t_ tok0;have tok1:Tk 1:=⟨⟩))
  | (go_at_call 73;have t_:Tk 1:=‹Tk 1›;refine (rany_any 1 atomB b hrun s1 d1 _ R1.out).mono ?_;rintro e w2 ⟨v2,x2,s2,d2,rfl,rfl,r2,l2,o2,t2⟩;have I2:=hid (I1.out.step t2);have L2:=hid (Nat.le_trans l2 hle1.out);have hle2:=L2;have kk2:=K1.out.only o2 hne;have ss2:=S1.out.stays (o2.stays hbB);have tt2:=T1.out.trans (o2.twoUp hcb);have gg2:=G1.out.below o2.low (Nat.le_of_lt hcb);have u2:=kk2.c4;have f2:=kk2.free 4;have R2:=hid (r2.near hcb gg2 (j:=4) (.string (str x2)));have K2:=hid (kk2.set4 x2);have T2:=hid (tt2.trans (Two.near w2 hcb 4 (.string (str x2))));have G2:=hid (gg2.only (Only.set w2 c 4 (.string (str x2))));have e2:=ss2.stays ((setStays w2 c 4 (.string (str x2))).mono hcB);have S2:=hid (CmRows.as K2.out e2.set e2.names e2.items e2.keys e2.lit);clear e2;clear r2 l2 o2 t2 kk2 ss2 tt2 gg2 <;> (clear t_ tok1;have tok2:Tk 2:=⟨⟩))
  | (go_at_call 34;have t_:Tk 2:=‹Tk 2›;refine (rblank_any b s2 d2 _ R2.out).mono ?_;rintro e w3 ⟨v3,x3,s3,d3,rfl,rfl,r3,l3,o3,t3⟩;have I3:=hid (I2.out.step t3);have L3:=hid (Nat.le_trans l3 hle2.out);have hle3:=L3;have kk3:=K2.out.only o3 hne;have ss3:=S2.out.stays (o3.stays hbB);have tt3:=T2.out.trans (o3.twoUp hcb);have gg3:=G2.out.below o3.low (Nat.le_of_lt hcb);have R3:=hid r3;have K3:=hid kk3;have T3:=hid tt3;have G3:=hid gg3;have S3:=hid ss3;clear r3 l3 o3 t3 kk3 ss3 tt3 gg3 <;> (clear t_ tok2;have tok3:Tk 3:=⟨⟩)))
 obtain ⟨pk,hp4⟩:∃ pk,Lib.hasPrefix s3 [40] = pk:=⟨_,rfl⟩
 go_upto_if 150 with (go_at_call 33;have hse:=rsees_any 40 40 rfl b s3 d3 _ R3.out;rw [hp4] at hse;refine hse.mono ?_;clear hse;rintro e w4 ⟨rfl,he⟩;obtain rfl:=he.symm)
 go_cut [] from 151 to 157 (fun wx=>∃ (fl:Nat) (t:Bt) (d:Bool),Inv bad R d (apT1 x2 x fl t)∧CmAt wx c { x with date:=-1,box:=x2,flags:=fl } v∧CmRows B wx { x with date:=-1,box:=x2,flags:=fl } v∧RtT wx b t d∧Two c b w wx∧t.length ≤ s.length)
 case first =>
  cases pk with
  | false =>
   have I4:Hid (Inv bad R d3 (apT1 x2 x x.flags s3)):=hid (I3.out.to fun _=>by unfold apL;rw [if_neg (by rw [hp4];simp)];rfl)
   clear hp4
   go_wp2_with fail
   go_meet
   exact ⟨x.flags,s3,d3,I4.out,K3.out,(have e:=S3.out;⟨e.set,e.names,e.items,e.keys,e.lit⟩),R3.out,T3.out,L3.out⟩
  | true =>
   have I4:=hid (I3.out.to (K':=(Im.list s3).bind fun r=>(signR 32 r.2).bind fun q=>apT1 x2 x r.1 q.2) fun _=>app_list hp4)
   clear I3 hp4
   have I3:=hid I4.out
   clear I4
   go_wp2_with (first
    | (go_at_call 74;have t_:Tk 3:=‹Tk 3›;refine (rflags_l b s3 d3 _ R3.out).mono ?_;rintro e w5 ⟨v5,x5,s5,d5,rfl,⟨rfl,q5⟩,r5,l5,o5,t5⟩;have I5:=hid (I3.out.step t5);have L5:=hid (Nat.le_trans l5 hle3.out);have hle5:=L5;have kk5:=K3.out.only o5 hne;have ss5:=S3.out.stays (o5.stays hbB);have tt5:=T3.out.trans (o5.twoUp hcb);have gg5:=G3.out.below o5.low (Nat.le_of_lt hcb);have u5:=kk5.c7;have f5:=kk5.free 7;have R5:=hid (r5.near hcb gg5 (j:=7) (.int .i64 x5));have K5:=hid (kk5.set7 x5);have T5:=hid (tt5.trans (Two.near w5 hcb 7 (.int .i64 x5)));have G5:=hid (gg5.only (Only.set w5 c 7 (.int .i64 x5)));have e5:=ss5.stays ((setStays w5 c 7 (.int .i64 x5)).mono hcB);have S5:=hid (CmRows.as K5.out e5.set e5.names e5.items e5.keys e5.lit);clear e5;clear r5 l5 o5 t5 kk5 ss5 tt5 gg5 <;> (clear t_ tok3;have tok4:Tk 4:=⟨⟩))
    | (go_at_call 34;have t_:Tk 4:=‹Tk 4›;refine (rblank_any b s5 d5 _ R5.out).mono ?_;rintro e w6 ⟨v6,x6,s6,d6,rfl,rfl,r6,l6,o6,t6⟩;have I6:=hid (I5.out.step t6);have L6:=hid (Nat.le_trans l6 hle5.out);have hle6:=L6;have kk6:=K5.out.only o6 hne;have ss6:=S5.out.stays (o6.stays hbB);have tt6:=T5.out.trans (o6.twoUp hcb);have gg6:=G5.out.below o6.low (Nat.le_of_lt hcb);have R6:=hid r6;have K6:=hid kk6;have T6:=hid tt6;have G6:=hid gg6;have S6:=hid ss6;clear r6 l6 o6 t6 kk6 ss6 tt6 gg6 <;> (clear t_ tok4;have tok5:Tk 5:=⟨⟩)))
   go_meet
   exact ⟨x5,s6,d6,I6.out,K6.out,(have e:=S6.out;⟨e.set,e.names,e.items,e.keys,e.lit⟩),R6.out,T6.out,L6.out⟩
 case rest =>
  obtain ⟨fl,s7,d7,hi7,hc7,hv7,hr7,ht7,hl7⟩:=hcut
  have I7:=hid hi7
  have K7:=hid hc7
  have S7:=hid hv7
  have R7:=hid hr7
  have G7:=hid (G0.out.two ht7)
  have T7:=hid ht7
  have L7:=hid hl7
  have hle7:=hid hl7
  clear hi7 hc7 hv7 hr7 ht7 hl7 hp4
  obtain ⟨qk,hp8⟩:∃ qk,Lib.hasPrefix s7 [34] = qk:=⟨_,rfl⟩
  go_upto_if 159 with (go_at_call 33;have hse:=rsees_any 34 34 rfl b s7 d7 _ R7.out;rw [hp8] at hse;refine hse.mono ?_;clear hse;rintro e w8 ⟨rfl,he⟩;obtain rfl:=he.symm)
  go_cut [] from 6 to 182 (fun wx=>∃ (dt:Int) (t:Bt) (d:Bool),Inv bad R d (apT2 x2 x fl dt t)∧CmAt wx c { x with date:=dt,box:=x2,flags:=fl } v∧CmRows B wx { x with date:=dt,box:=x2,flags:=fl } v∧RtT wx b t d∧Two c b w wx∧t.length ≤ s.length)
  case first =>
   cases qk with
   | false =>
    have I8:=hid (I7.out.to fun _=>app_bare hp8)
    clear hp8
    go_wp2_with fail
    go_meet
    exact ⟨-1,s7,d7,I8.out,K7.out,S7.out,R7.out,T7.out,L7.out⟩
   | true =>
    have I8:=hid (I7.out.to fun _=>app_quote hp8)
    clear I7 hp8
    have I7:=hid I8.out
    clear I8
    go_wp2_with (first
     | (go_at_call 76;have t_:Tk 3:=‹Tk 3›;refine (rquoted_any b s7 d7 _ R7.out).mono ?_;rintro e w9 ⟨v9,x9,s9,d9,rfl,rfl,r9,l9,o9,t9⟩;have I9:=hid (I7.out.step t9);have L9:=hid (Nat.le_trans l9 hle7.out);have hle9:=L9;have kk9:=K7.out.only o9 hne;have ss9:=S7.out.stays (o9.stays hbB);have tt9:=T7.out.trans (o9.twoUp hcb);have gg9:=G7.out.below o9.low (Nat.le_of_lt hcb);have R9:=hid r9;have K9:=hid kk9;have T9:=hid tt9;have G9:=hid gg9;have S9:=hid ss9;clear r9 l9 o9 t9 kk9 ss9 tt9 gg9 <;> (clear t_ tok3;have tok4:Tk 4:=⟨⟩))
     | (go_at_call 75;obtain ⟨pn,pe,p10⟩:∃ pn pe,St.parseP x9 = (pn,pe):=⟨_,_,rfl⟩;refine (St.rparse_any x9 _).mono ?_;rintro e w10 ⟨he,b10⟩;rw [← St.parse_eq,p10] at he;obtain rfl:e = .returned (.tuple #[.int .i64 pn,.int .i64 pe]):=he;have i10:Inv bad R d9 (if (pe != 0) = true then none else (signR 32 s9).bind fun q=>apT2 x2 x fl pn q.2):=(by have h:=I9.out;rw [p10] at h;exact h);obtain ⟨ek,hek⟩:∃ ek,(pe != 0) = ek:=⟨_,rfl⟩;rw [hek] at i10;have k10:=K9.out.below b10;have r10:=R9.out.below b10;have u12:=k10.c12;have f12:=k10.free 12;have c10:=r10.c1;have f10:=r10.free 1;have t10:=T9.out.trans (Two.of b10 (Nat.le_of_lt K9.out.lt));have s10:=S9.out.stays (Below.stays b10);have Z:∀ z:Bool,Inv bad R z ((signR 32 s9).bind fun q=>apT2 x2 x fl pn q.2)→Hid (Inv bad R z ((signR 32 s9).bind fun q=>apT2 x2 x fl pn q.2)∧CmAt ((w10.setCell ⟨b,1,none⟩ (.bool z)).setCell ⟨c,12,none⟩ (.int .i64 pn)) c { x with date:=pn,box:=x2,flags:=fl } v∧CmRows B ((w10.setCell ⟨b,1,none⟩ (.bool z)).setCell ⟨c,12,none⟩ (.int .i64 pn)) { x with date:=pn,box:=x2,flags:=fl } v∧RtT ((w10.setCell ⟨b,1,none⟩ (.bool z)).setCell ⟨c,12,none⟩ (.int .i64 pn)) b s9 z∧Two c b w ((w10.setCell ⟨b,1,none⟩ (.bool z)).setCell ⟨c,12,none⟩ (.int .i64 pn))):=(fun z hz=>by have o11:=Only.set w10 b 1 (.bool z);have t11:=t10.trans (o11.twoUp hcb);have e11:=(s10.stays (o11.stays hbB)).stays ((setStays _ c 12 (.int .i64 pn)).mono hcB);exact hid ⟨hz,(k10.only o11 hne).set12 pn,⟨e11.set,e11.names,e11.items,e11.keys,e11.lit⟩,(r10.set1 z).near hcb (G0.out.two t11) _,t11.trans (Two.near _ hcb _ _)⟩);clear k10 r10 t10 s10 he b10 p10;cases d9 <;> (first | (have Y:=Z ek i10.guard;clear Z i10) | (have Y:=Z true (i10.to fun h=>by cases h);clear Z i10)))
     | (go_at_call 34;refine (rblank_any b s9 _ _ Y.out.2.2.2.1).mono ?_;rintro e w12 ⟨v12,a12,s12,d12,rfl,rfl,r12,l12,o12,t12⟩;have I12:=hid (Y.out.1.step t12);have R12:=hid r12;have L12:=hid (Nat.le_trans l12 L9.out);have K12:=hid (Y.out.2.1.only o12 hne);have S12:=hid (Y.out.2.2.1.stays (o12.stays hbB));have T12:=hid (Y.out.2.2.2.2.trans (o12.twoUp hcb));clear r12 l12 o12 t12))
    all_goals
     go_meet
     exact ⟨pn,s12,d12,I12.out,K12.out,(have e:=S12.out;⟨e.set,e.names,e.items,e.keys,e.lit⟩),R12.out,T12.out,L12.out⟩
  case rest =>
   obtain ⟨dt,s13,d13,hi13,hc13,hv13,hr13,ht13,hl13⟩:=hcut
   have I13:=hid (hi13.to fun _=>app_lit x2 x fl dt s13)
   have K13:=hid hc13
   have S13:=hid hv13
   have R13:=hid hr13
   have G13:=hid (G0.out.two ht13)
   have T13:=hid ht13
   have L13:=hid hl13
   have hle13:=hid hl13
   clear hi13 hc13 hv13 hr13 ht13 hl13 hp8
   go_wp2_with (go_at_call 77;have t_:Tk 3:=‹Tk 3›;refine (rliteral_any b s13 d13 _ R13.out).mono ?_;rintro e w14 ⟨v14,x14,s14,d14,rfl,rfl,r14,l14,o14,t14⟩;have I14:=hid (I13.out.step t14);have L14:=hid (Nat.le_trans l14 hle13.out);have hle14:=L14;have kk14:=K13.out.only o14 hne;have ss14:=S13.out.stays (o14.stays hbB);have tt14:=T13.out.trans (o14.twoUp hcb);have gg14:=G13.out.below o14.low (Nat.le_of_lt hcb);have R14:=hid r14;have K14:=hid kk14;have T14:=hid tt14;have G14:=hid gg14;have S14:=hid ss14;have k14:=K14.out.below (Lib.bytesWorld_below w14 5 (str x14));have u13:=k14.c13;have f13:=k14.free 13;have z14:=str_size x14;clear k14;clear r14 l14 o14 t14 kk14 ss14 tt14 gg14 <;> (clear t_ tok3;have tok4:Tk 4:=⟨⟩))
   go_end0
   have hb:=Lib.bytesWorld_below w14 5 (str x14)
   have hn:=(LBuf.bytes w14 x14 x14.length _ rfl (grownCap_ge w14 x14.length 0 5)).mono (show B ≤ w14.heap.size by have:=T14.out.size;omega)
   have e:=(S14.out.stays (Below.stays hb)).stays ((setStays _ c 13 (.slice (some ⟨w14.heap.size,0,none⟩) x14.length (grownCap w14 x14.length 0 5))).mono hcB)
   exact ⟨_,s14,d14,_,rfl,(T14.out.trans (Two.of hb (Nat.le_of_lt K14.out.lt))).trans (Two.near _ hcb _ _),(R14.out.below hb).near hcb (G14.out.below hb (Nat.le_of_lt K14.out.lt)) _,L14.out,(K14.out.below hb).set13 _ x14,⟨e.set,e.names,e.items,e.keys,hn.stays ((setStays _ _ _ _).mono hcB)⟩,I14.out.out,rfl⟩
end Go.Proofs.YtfdmdmahddjjmaaGreatDoor
