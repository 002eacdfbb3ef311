/-
  The reader of STORE.
-/
import Derived.Test.YtfdmdmahddjjmaaGreatDoorPkIm3
import Derived.Test.YtfdmdmahddjjmaaGreatDoorPkIm1
import Derived.Deep.CutBlock
import Derived.Deep.DeepCutAuto
import Derived.Test.YtfdmdmahddjjmaaGreatDoorPkOwn
import Derived.Deep.RegionHeld3
set_option linter.unusedVariables false
set_option linter.unusedSimpArgs false
set_option maxRecDepth 100000
namespace Go.Proofs.YtfdmdmahddjjmaaGreatDoor
open Go.RowKit Own Im
attribute [local go_sem] str_toList str_size
def moreM (b:Nat) (v:Value) (w:World):Nat:=match v with
 | .bool true=>rdLen b w + 1
 | _=>0
theorem flagsL_on {f n:Nat} {s t r:Bt} {i:Nat} (h:Im.flag s = some (i,t)) (hk:takes [32] t = (true,r)):flagsL (f + 1) n s = flagsL f (n ||| i) r:=by
 rw [flagsL.eq_def]
 simp [h,hk]
theorem flagsL_end {f n:Nat} {s t r:Bt} {i:Nat} (h:Im.flag s = some (i,t)) (hk:takes [32] t = (false,r)):flagsL (f + 1) n s = some (n ||| i,t):=by
 rw [flagsL.eq_def]
 simp [h,hk]
theorem flagsL_none {f n:Nat} {s:Bt} (h:Im.flag s = none):flagsL (f + 1) n s = none:=by
 rw [flagsL.eq_def]
 simp [h]
def storeT (x:Cm) (l:List Rg) (m:Int) (s:Bt):Option (Cm × Bt) :=
 if (Im.word s).1 = [70,76,65,71,83,46,83,73,76,69,78,84]∨(Im.word s).1 = [70,76,65,71,83] then
  (sign [32] (Im.word s).2).bind fun t=>(if Lib.hasPrefix t [40] = true then Im.list t else flagsL (t.length + 1) x.flags t).map fun r =>
    ({ x with set:=l,mode:=m,silent:=decide ((Im.word s).1 = [70,76,65,71,83,46,83,73,76,69,78,84]),flags:=r.1 },r.2)
 else none
theorem store_at {x:Cm} {s s1 s2 s3:Bt} {l:List Rg} (h1:sign [32] s = some s1) (h2:Im.set s1 = some (l,s2)) (h3:sign [32] s2 = some s3):storeF x s = storeT x l (modeS x.mode s3).1 (modeS x.mode s3).2:=by
 unfold storeF storeT
 rw [h1,Option.bind_some,h2,Option.bind_some]
 dsimp only
 rw [h3,Option.bind_some]
set_option maxHeartbeats 4000000 in
theorem store_any:FormC 60 (readF 7):=by
 intro b c B s x v w h hc hv hbc hcB hB hx7 hx6
 have hbB:b < B:=by omega
 have hcb:c ≠ b:=by omega
 have H:=hid h
 have K0:=hid hc
 have S0:=hid hv
 have T0:=hid (Two.refl b c w)
 clear h hc hv
 have hfl:x.flags = x.flags:=rfl
 obtain ⟨R,hR⟩:∃ R,R = (readF 7) x s:=⟨_,rfl⟩
 rw [← hR]
 have HR:=hid hR
 clear hR
 have tok0:Tk 0:=⟨⟩
 go_enter Tryz.func60,Tryz.ntmps60
 go_upto_block 0 with (first
  | (go_at_call 53;have t_:Tk 0:=‹Tk 0›;refine (sign_any b s [32] _ H.out).mono ?_;intro e w1 h1;rcases sign_cases h1 with ⟨q1,rfl,o1⟩ | ⟨s1,q1,rfl,r1,o1⟩ <;> (first | (have K1:Hid (CmAt w1 c _ _):=hid (K0.out.only o1 hcb);have S1:=hid (S0.out.stays (o1.stays hbB));have T1:=hid (T0.out.trans o1.two);have R1:=hid r1;have Q1:=hid q1;clear r1 q1 o1 h1) | (have Q1:=hid q1;have T1:=hid (T0.out.trans o1.two);clear q1 o1 h1)) <;> (clear t_ tok0;have tok1:Tk 1:=⟨⟩))
  | (go_at_call 62;have t_:Tk 1:=‹Tk 1›;refine (set_any b s1 _ R1.out).mono ?_;intro e w2 h2;rcases h2.cases with ⟨q2,rfl,o2⟩ | ⟨x2,s2,y2,q2,rfl,v2,r2,o2⟩ <;> (first | (obtain ⟨A2,c2,rfl,-,-⟩:=v2.full;have k2:=K1.out.only o2 hcb;have u2:=k2.c3;have f2:=k2.free 3;have K2:=hid (k2.set3 (.slice A2 x2.length c2) x2);have e2:=(show CmRows B (w2.setCell ⟨c,3,none⟩ (.slice A2 x2.length c2)) _ _ from (S1.out.stays (o2.stays hbB)).stays ((setStays _ _ _ _).mono hcB));have S2:=hid (CmRows.as K2.out ((v2.mono (Nat.le_trans hB T1.out.size)).stays ((setStays _ _ _ _).mono hcB)) e2.names e2.items e2.keys e2.lit);clear e2;have T2:Hid (Two b c w (w2.setCell ⟨c,3,none⟩ (.slice A2 x2.length c2))):=hid ((T1.out.trans o2.two).trans (Two.set _ hbc _ _));have R2:Hid (RdI (w2.setCell ⟨c,3,none⟩ (.slice A2 x2.length c2)) b s2):=hid (r2.far hbc _); have Q2:=hid q2; clear r2 q2 o2 h2) | (have Q2:=hid q2;have T2:=hid (T1.out.trans o2.two);clear q2 o2 h2)) <;> (clear t_ tok1;have tok2:Tk 2:=⟨⟩))
  | (go_at_call 53;have t_:Tk 2:=‹Tk 2›;refine (sign_any b s2 [32] _ R2.out).mono ?_;intro e w3 h3;rcases sign_cases h3 with ⟨q3,rfl,o3⟩ | ⟨s3,q3,rfl,r3,o3⟩ <;> (first | (have K3:Hid (CmAt w3 c _ _):=hid (K2.out.only o3 hcb);have S3:=hid (S2.out.stays (o3.stays hbB));have T3:=hid (T2.out.trans o3.two);have R3:=hid r3;have Q3:=hid q3;clear r3 q3 o3 h3) | (have Q3:=hid q3;have T3:=hid (T2.out.trans o3.two);clear q3 o3 h3)) <;> (clear t_ tok2;have tok3:Tk 3:=⟨⟩)))
 all_goals first
  | (refine ⟨rfl,FormPost.panic ?_ T3.out⟩;rw [HR.out];simp [readF,storeF,Q1.out,Q2.out,Q3.out];done)
  | (refine ⟨rfl,FormPost.panic ?_ T2.out⟩;rw [HR.out];simp [readF,storeF,Q1.out,Q2.out];done)
  | (refine ⟨rfl,FormPost.panic ?_ T1.out⟩;rw [HR.out];simp [readF,storeF,Q1.out];done)
  | skip
 have hR3:R = storeT x x2 (modeS x.mode s3).1 (modeS x.mode s3).2:=by rw [HR.out];exact store_at Q1.out Q2.out Q3.out
 obtain ⟨m,t,hmt⟩:∃ m t,modeS x.mode s3 = (m,t):=⟨_,_,rfl⟩
 rw [hmt] at hR3
 dsimp only at hR3
 have HMT:=hid hmt
 clear hmt
 have hv2:CmV:={ v with set:=.slice A2 x2.length c2 }
 clear hv2
 go_cut [] from 15 to 26 (fun wx=>CmAt wx c { x with set:=x2,mode:=m } { v with set:=.slice A2 x2.length c2 }∧CmRows B wx { x with set:=x2,mode:=m } { v with set:=.slice A2 x2.length c2 }∧RdI wx b t∧Two b c w wx)
 case first =>
  go_wp2_with (first
   | (go_at_call 26;have t_:Tk 3:=‹Tk 3›;refine (takes_any b s3 [43] _ R3.out).mono ?_;intro e w4 h4;rcases takes_cases h4 with ⟨s4,q4,rfl,r4,o4⟩ | ⟨s4,q4,rfl,r4,o4⟩ <;> (have k4:=K3.out.only o4 hcb;have u4:=k4.c8;have f4:=k4.free 8;have K4:=hid k4;have S4:=hid (S3.out.stays (o4.stays hbB));have T4:=hid (T3.out.trans o4.two);have R4:=hid r4;have Q4:=hid q4;clear r4 o4 q4 h4 k4) <;> (clear t_ tok3;have tok4:Tk 4:=⟨⟩))
   | (go_at_call 26;have t_:Tk 4:=‹Tk 4›;refine (takes_any b s4 [45] _ R4.out).mono ?_;intro e w5 h5;rcases takes_cases h5 with ⟨s5,q5,rfl,r5,o5⟩ | ⟨s5,q5,rfl,r5,o5⟩ <;> (have k5:=K4.out.only o5 hcb;have u5:=k5.c8;have f5:=k5.free 8;have K5:=hid k5;have S5:=hid (S4.out.stays (o5.stays hbB));have T5:=hid (T4.out.trans o5.two);have R5:=hid r5;have Q5:=hid q5;clear r5 o5 q5 h5 k5) <;> (clear t_ tok4;have tok5:Tk 5:=⟨⟩)))
  all_goals go_meet
  all_goals first
   | (have q4:=Q4.out
      have q5:=Q5.out
      have h4:=takes_no q4
      rw [h4] at q5
      have h5:=takes_no q5
      have h:=HMT.out
      simp [modeS,q4,q5] at h
      obtain ⟨h6,h7⟩:=h
      rw [h7] at h5
      subst h5 h6
      have e:=S5.out
      exact ⟨K5.out,⟨e.set,e.names,e.items,e.keys,e.lit⟩,R5.out,T5.out⟩)
   | (have q4:=Q4.out
      have q5:=Q5.out
      have h4:=takes_no q4
      rw [h4] at q5
      have h:=HMT.out
      simp [modeS,q4,q5] at h
      obtain ⟨rfl,rfl⟩:=h
      have e:=S5.out.stays ((setStays w5 c 8 (.int .i64 2)).mono hcB)
      exact ⟨K5.out.set8 2,⟨e.set,e.names,e.items,e.keys,e.lit⟩,R5.out.far hbc _,T5.out.trans (Two.set _ hbc _ _)⟩)
   | (obtain ⟨rfl,rfl⟩:1 = m∧s4 = t:=by have h:=HMT.out;simp [modeS,Q4.out] at h;exact h
      have e:=S4.out.stays ((setStays w4 c 8 (.int .i64 1)).mono hcB)
      exact ⟨K4.out.set8 1,⟨e.set,e.names,e.items,e.keys,e.lit⟩,R4.out.far hbc _,T4.out.trans (Two.set _ hbc _ _)⟩)
 case rest =>
  obtain ⟨hc,hv,hr,ht⟩:=hcut
  have K9:=hid hc
  have S9:=hid hv
  have R9:=hid hr
  have T9:=hid ht
  clear hc hv hr ht HMT
  have hfl:x.flags = 0:=hx7
  obtain ⟨wd,t1,hw⟩:∃ wd t1,Im.word t = (wd,t1):=⟨_,_,rfl⟩
  have hwd:=fun W hW=>word_any b t W hW
  unfold storeT at hR3
  rw [hw] at hwd hR3
  dsimp only at hwd hR3
  clear hw HR
  have hways:(∃ sil:Bool,(wd == [70,76,65,71,83,46,83,73,76,69,78,84]) = sil∧(sil = true∨(wd == [70,76,65,71,83]) = true)∧R = (sign [32] t1).bind fun t=>(if Lib.hasPrefix t [40] = true then Im.list t else flagsL (t.length + 1) x.flags t).map fun r=>({ x with set:=x2,mode:=m,silent:=sil,flags:=r.1 },r.2))∨((wd == [70,76,65,71,83,46,83,73,76,69,78,84]) = false∧(wd == [70,76,65,71,83]) = false∧R = none):=by
   by_cases e1:wd = [70,76,65,71,83,46,83,73,76,69,78,84]
   · left
     refine ⟨true,by simpa using e1,.inl rfl,?_⟩
     rw [hR3,if_pos (.inl e1),decide_eq_true e1]
   by_cases e2:wd = [70,76,65,71,83]
   · left
     refine ⟨false,by simpa using e1,.inr (by simpa using e2),?_⟩
     rw [hR3,if_pos (.inr e2),decide_eq_false e1]
   · right
     exact ⟨by simpa using e1,by simpa using e2,by rw [hR3,if_neg (by rintro (h | h);exact e1 h;exact e2 h)]⟩
  clear hR3
  rcases hways with ⟨sil,e1,e2,hR4⟩ | ⟨e1,e2,hR4⟩
  rotate_left 1
  · have HR4:=hid hR4
    clear hR4
    go_wp2_with (first
     | (go_at_call 25;refine (hwd _ R9.out).mono ?_;rintro e w10 ⟨rfl,r10,o10⟩;have k10:=K9.out.only o10 hcb;have u9:=k10.c9;have f9:=k10.free 9;have K10:=hid k10;have S10:=hid (S9.out.stays (o10.stays hbB));have R10:=hid r10;have O10:=hid o10;clear r10 o10 k10)
     | (go_at_call 28;refine (must_f _).mono ?_;rintro e w11 ⟨rfl,he⟩;obtain rfl:=he.symm))
    exact ⟨rfl,FormPost.panic HR4.out ((T9.out.trans O10.out.two).trans (Two.set _ hbc _ _))⟩
  · have HR4:=hid hR4
    clear hR4
    have hcs:(sil = true∧(wd == [70,76,65,71,83,46,83,73,76,69,78,84]) = true)∨(sil = false∧(wd == [70,76,65,71,83,46,83,73,76,69,78,84]) = false∧(wd == [70,76,65,71,83]) = true):=by
     cases sil with
     | true=>exact .inl ⟨rfl,e1⟩
     | false=>exact .inr ⟨rfl,e1,e2.resolve_left (by simp)⟩
    clear e1 e2
    rcases hcs with ⟨rfl,e1⟩ | ⟨rfl,e1,e2⟩
    · go_wp2_with (first
        | (go_at_call 25;refine (hwd _ R9.out).mono ?_;rintro e w10 ⟨rfl,r10,o10⟩;have k10:=K9.out.only o10 hcb;have u9:=k10.c9;have f9:=k10.free 9;have K10:=hid k10;have S10:=hid (S9.out.stays (o10.stays hbB));have R10:=hid r10;have O10:=hid o10;clear r10 o10 k10)
        | (go_at_call 28;refine (must_t _).mono ?_;rintro e w11 ⟨rfl,he⟩;obtain rfl:=he.symm)
        | (go_at_call 53;refine (sign_any b t1 [32] _ (R10.out.far hbc _)).mono ?_;intro e w12 h12;rcases sign_cases h12 with ⟨q12,rfl,o12⟩ | ⟨s12,q12,rfl,r12,o12⟩ <;> (have T12:=hid (((T9.out.trans O10.out.two).trans (Two.set _ hbc _ _)).trans o12.two);have Q12:=hid q12;have Y12:=hid o12;first | (have R12:=hid r12;clear r12 o12 q12 h12) | clear o12 q12 h12))
        | (go_at_call 91;refine (sees_any b s12 [40] _ R12.out).mono ?_;rintro e w13 ⟨h13,he⟩;obtain rfl:=he.symm;rcases bool_split h13 with ⟨q13,rfl⟩ | ⟨q13,rfl⟩ <;> (have Q13:=hid q13;clear q13 h13))
        | (go_at_call 95;refine (list_any b s12 _ R12.out).mono ?_;intro e w14 h14;rcases h14.cases with ⟨q14,rfl,o14⟩ | ⟨n14,s14,y14,q14,rfl,rfl,r14,o14⟩ <;> (first | (have k14:=((K10.out.set9 _).only Y12.out hcb).only o14 hcb;have u7:=k14.c7;have f7:=k14.free 7;have K14:=hid k14;have R14:=hid r14;have O14:=hid o14;have Q14:=hid q14;clear r14 o14 q14 h14 k14) | (have O14:=hid o14;have Q14:=hid q14;clear o14 q14 h14))))
      all_goals first
       | (refine ⟨rfl,FormPost.panic ?_ T12.out⟩;rw [HR4.out,Q12.out];rfl)
       | (refine ⟨rfl,FormPost.panic ?_ (T12.out.trans O14.out.two)⟩;rw [HR4.out,Q12.out,Option.bind_some,if_pos Q13.out,Q14.out];rfl)
       | skip
      all_goals first
       | (go_end0;have e:=(((S10.out.stays ((setStays w10 c 9 (.bool true)).mono hcB)).stays (Y12.out.stays hbB)).stays (O14.out.stays hbB)).stays ((setStays w14 c 7 (.int .i64 n14)).mono hcB);exact FormPost.give (by rw [HR4.out,Q12.out,Option.bind_some,if_pos Q13.out,Q14.out];rfl) ((T12.out.trans O14.out.two).trans (Two.set _ hbc _ _)) (R14.out.far hbc _) (K14.out.set7 n14) ⟨e.set,e.names,e.items,e.keys,e.lit⟩)
       | skip
      all_goals
       have hR5:R = (flagsL (s12.length + 1) x.flags s12).map fun r=>({ x with set:=x2,mode:=m,silent:=true,flags:=r.1 },r.2):=by rw [HR4.out,Q12.out,Option.bind_some,if_neg (by rw [Q13.out];simp)]
       have k12:=(K10.out.set9 _).only Y12.out hcb
       have K12:=hid k12
       have e12:=(S10.out.stays ((setStays w10 c 9 (.bool true)).mono hcB)).stays (Y12.out.stays hbB)
       have S12:Hid (CmRows B w12 { x with set:=x2,mode:=m,silent:=true } { v with set:=.slice A2 x2.length c2 }):=hid ⟨e12.set,e12.names,e12.items,e12.keys,e12.lit⟩
       clear k12 e12
       go_loopw [5] (fun v5 wr=>∃ (more:Bool) (f n:Nat) (t':Bt),v5 = .bool more∧n < 32∧(more = true→R = (flagsL f n t').map (fun r=>({ x with set:=x2,mode:=m,silent:=true,flags:=r.1 },r.2))∧t'.length < f)∧(more = false→R = some ({ x with set:=x2,mode:=m,silent:=true,flags:=n },t'))∧CmAt wr c { x with set:=x2,mode:=m,silent:=true,flags:=n } { v with set:=.slice A2 x2.length c2 }∧CmRows B wr { x with set:=x2,mode:=m,silent:=true,flags:=n } { v with set:=.slice A2 x2.length c2 }∧RdI wr b t'∧Two b c w wr) (fun v5 wr=>moreM b v5 wr)
       case atStart=>exact ⟨true,_,0,s12,rfl,by decide,fun _=>⟨by rw [hR5,hfl],Nat.lt_succ_self _⟩,(fun h=>by cases h),(show CmAt w12 c _ _ from by have k:=K12.out;unfold CmAt at k ⊢;rw [k,hfl]),(have e:=S12.out;⟨e.set,e.names,e.items,e.keys,e.lit⟩),R12.out,T12.out⟩
       case round =>
        obtain ⟨more,f,n,t',rfl,hn,hr1,hr2,hc,hv,hrd,ht⟩:=hrel
        have KC:=hid hc
        have SC:=hid hv
        have RC:=hid hrd
        have TC:=hid ht
        cases more with
        | false =>
         have HR6:=hid (hr2 rfl)
         clear hc hv hrd ht hr1 hr2 hR5
         go_wp2_with fail
         go_end0
         exact FormPost.give HR6.out TC.out RC.out KC.out SC.out
        | true =>
         obtain ⟨hr3,hlf⟩:=hr1 rfl
         obtain ⟨f,rfl⟩:∃ k,f = k + 1:=⟨f - 1,by omega⟩
         have i0:wr.drew.cell? ⟨c,7,none⟩ = some (.int .i64 n):=hc.c7
         have hfg:=fun W hW=>flag_any b t' W hW
         obtain ⟨q,hq⟩:∃ q,Im.flag t' = q:=⟨_,rfl⟩
         rw [hq] at hfg
         clear hc hv hrd ht hr1 hr2 hR5
         cases q with
         | none =>
          have HR6:Hid (R = none):=hid (by rw [hr3,flagsL_none hq];rfl)
          clear hr3 hq
          go_wp2_with fail
          refine wp_region_held_drew (S:=fun w'=>w'.cell? ⟨c,7,none⟩ = some (.int .i64 n)) (by kernel_rfl) i0 (fun hHeld=>?_)
          refine wpAnyH_take (i:=0) (oi:=_) (v:=?vut0) rfl (by kernel_rfl) (by kernel_rfl) (by kernel_rfl) (fun _ _ _ h=>h) (Or.inl ⟨by rfl,?yut0⟩) (by assumption) ?rut0
          case yut0=>(intro w hSw;(try dsimp only at hSw);go_simp;try with_reducible rfl)
          try simp only [sxa,sxb,sxc,Act.put,sxd,sxe,sxf]
          refine wpAnyH_take (i:=1) (oi:=_) (v:=?vut1) rfl (by kernel_rfl) (by kernel_rfl) (by kernel_rfl) (fun _ _ _ h=>h) (Or.inl ⟨by rfl,?yut1⟩) (by assumption) ?rut1
          case yut1=>(intro w hSw;(try dsimp only at hSw);go_simp;try with_reducible rfl)
          try simp only [sxa,sxb,sxc,Act.put,sxd,sxe,sxf]
          refine wpAnyH_take (i:=2) (oi:=_) (v:=?vut2) rfl (by kernel_rfl) (by kernel_rfl) (by kernel_rfl) (fun _ _ _ h=>h) (Or.inl ⟨by rfl,?yut2⟩) (by assumption) ?rut2
          case yut2=>(intro w hSw;(try dsimp only at hSw);go_simp;try with_reducible rfl)
          try simp only [sxa,sxb,sxc,Act.put,sxd,sxe,sxf]
          refine wpAnyH_take (i:=3) (oi:=_) (v:=?vut3) rfl (by kernel_rfl) (by kernel_rfl) (by kernel_rfl) (fun _ _ _ h=>h) (Or.inl ⟨by rfl,?yut3⟩) (by assumption) ?rut3
          case yut3=>(intro w hSw;(try dsimp only at hSw);go_simp;try with_reducible rfl)
          try simp only [sxa,sxb,sxc,Act.put,sxd,sxe,sxf]
          refine wpAnyH_take (i:=4) (oi:=_) (v:=?vut4) rfl (by kernel_rfl) (by kernel_rfl) (by kernel_rfl) (fun _ _ _ h=>h) (Or.inl ⟨by rfl,?yut4⟩) (by assumption) ?rut4
          case yut4=>(intro w hSw;(try dsimp only at hSw);go_simp;try with_reducible rfl)
          try simp only [sxa,sxb,sxc,Act.put,sxd,sxe,sxf]
          refine wpAnyH_ready (rs:=[5]) (by kernel_rfl) (by simp) ?_
          refine AllReadyH.cons (o:=_) rfl (fun K hK=>?_) AllReadyH.nil
          go_simp
          refine (hfg _ RC.out.drew).mono ?_
          rintro e w6 ⟨o6,rfl⟩
          exact ⟨rfl,FormPost.panic HR6.out (TC.out.trans (Only.trans (Only.of (Below.refl _ _).drew (Nat.le_of_lt RC.out.lt)) o6).two)⟩
         | some q =>
          obtain ⟨i,t2⟩:=q
          have hi:=flag_b hq
          have hlt:=flag_lt hq
          have hor:=or_i64 n i hn hi
          have HR3:=hid hr3
          have HQ:=hid hq
          clear hr3 hq
          go_wp2_with fail
          refine wp_region_held_drew (S:=fun _=>True) (by kernel_rfl) trivial (fun hHeld=>?_)
          refine wpAnyH_take (i:=0) (oi:=_) (v:=?vvt0) rfl (by kernel_rfl) (by kernel_rfl) (by kernel_rfl) (fun _ _ _ h=>h) (Or.inl ⟨by rfl,?yvt0⟩) (by assumption) ?rvt0
          case yvt0=>(intro w hSw;(try dsimp only at hSw);go_simp;try with_reducible rfl)
          try simp only [sxa,sxb,sxc,Act.put,sxd,sxe,sxf]
          refine wpAnyH_take (i:=1) (oi:=_) (v:=?vvt1) rfl (by kernel_rfl) (by kernel_rfl) (by kernel_rfl) (fun _ _ _ h=>h) (Or.inl ⟨by rfl,?yvt1⟩) (by assumption) ?rvt1
          case yvt1=>(intro w hSw;(try dsimp only at hSw);go_simp;try with_reducible rfl)
          try simp only [sxa,sxb,sxc,Act.put,sxd,sxe,sxf]
          refine wpAnyH_take (i:=2) (oi:=_) (v:=?vvt2) rfl (by kernel_rfl) (by kernel_rfl) (by kernel_rfl) (fun _ _ _ h=>h) (Or.inl ⟨by rfl,?yvt2⟩) (by assumption) ?rvt2
          case yvt2=>(intro w hSw;(try dsimp only at hSw);go_simp;try with_reducible rfl)
          try simp only [sxa,sxb,sxc,Act.put,sxd,sxe,sxf]
          refine wpAnyH_take (i:=4) (oi:=_) (v:=?vvt4) rfl (by kernel_rfl) (by kernel_rfl) (by kernel_rfl) (fun _ _ _ h=>h) (Or.inl ⟨by rfl,?yvt4⟩) (by assumption) ?rvt4
          case yvt4=>(intro w hSw;(try dsimp only at hSw);go_simp;try with_reducible rfl)
          try simp only [sxa,sxb,sxc,Act.put,sxd,sxe,sxf]
          refine wpAnyH_ready (rs:=[3,5]) (by kernel_rfl) (by simp) ?_
          refine AllReadyH.cons (o:=_) rfl (fun K hK=>?_) (AllReadyH.cons (o:=_) rfl (fun K hK=>?_) AllReadyH.nil)
          · go_simp
            refine hK.out _ _ ?hst1 (fun hHeld2=>?_)
            case hst1=>exact trivial
            clear hK K hHeld
            have hHeld:=hHeld2
            clear hHeld2
            try simp only [sxa,sxb,sxc,Act.put,sxd,sxe,sxf]
            refine wpAnyH_ready (rs:=[5]) (by kernel_rfl) (by simp) ?_
            refine AllReadyH.cons (o:=_) rfl (fun K hK=>?_) AllReadyH.nil
            go_simp
            refine (hfg _ RC.out.drew).mono ?_
            rintro e w6 ⟨o6,y6,rfl,rfl,r6⟩
            have k6:=KC.out.drew.only o6 hcb
            have i6:=k6.c7
            have j6:=k6.free 7
            have R6:=hid r6
            have O6:=hid (Only.trans (Only.of (Below.refl _ _).drew (Nat.le_of_lt RC.out.lt)) o6)
            have K6:=hid k6
            clear r6 o6 k6
            go_wp2_with fail
            refine hK.out _ _ ?hst2 (fun hHeld2=>?_)
            case hst2=>exact trivial
            clear hK K hHeld
            have hHeld:=hHeld2
            clear hHeld2
            try simp only [sxa,sxb,sxc,Act.put,sxd,sxe,sxf]
            refine wpAnyH_take (i:=6) (oi:=_) (v:=?vtt2_6) rfl (by kernel_rfl) (by kernel_rfl) (by kernel_rfl) (fun _ _ _ h=>h) (Or.inl ⟨by rfl,?ytt2_6⟩) (by assumption) ?rtt2_6
            case ytt2_6=>(intro w hSw;(try dsimp only at hSw);go_simp;try with_reducible rfl)
            try simp only [sxa,sxb,sxc,Act.put,sxd,sxe,sxf]
            refine wpAnyH_take (i:=7) (oi:=_) (v:=?vtt2_7) rfl (by kernel_rfl) (by kernel_rfl) (by kernel_rfl) (fun _ _ _ h=>h) (Or.inl ⟨by rfl,?ytt2_7⟩) (by assumption) ?rtt2_7
            case ytt2_7=>(intro w hSw;(try dsimp only at hSw);go_simp;try with_reducible rfl)
            try simp only [sxa,sxb,sxc,Act.put,sxd,sxe,sxf]
            refine wpAnyH_take (i:=8) (oi:=_) (v:=?vtt2_8) rfl (by kernel_rfl) (by kernel_rfl) (by kernel_rfl) (fun _ _ _ h=>h) (Or.inl ⟨by rfl,?ytt2_8⟩) (by assumption) ?rtt2_8
            case ytt2_8=>(intro w hSw;(try dsimp only at hSw);go_simp;try with_reducible rfl)
            try simp only [sxa,sxb,sxc,Act.put,sxd,sxe,sxf]
            refine wpAnyH_ready (rs:=[9]) (by kernel_rfl) (by simp) ?_
            refine AllReadyH.cons (o:=_) rfl (fun K hK=>?_) AllReadyH.nil
            go_simp
            refine hK.out _ _ ?hst3 (fun hHeld2=>?_)
            case hst3=>exact trivial
            clear hK K hHeld
            have hHeld:=hHeld2
            clear hHeld2
            try simp only [sxa,sxb,sxc,Act.put,sxd,sxe,sxf]
            refine wpAnyH_done (by kernel_rfl) ?_ _
            go_wp2_with (go_at_call 26;refine (takes_any b t2 [32] _ (R6.out.far hbc _)).mono ?_;intro e w7 h7;rcases takes_cases h7 with ⟨s7,q7,rfl,r7,o7⟩ | ⟨s7,q7,rfl,r7,o7⟩ <;> (have Q7:=hid q7;have R7:=hid r7;have O7:=hid o7;clear q7 r7 o7 h7))
            all_goals
             have e:=((SC.out.stays (O6.out.stays hbB)).stays ((setStays w6 c 7 (.int .i64 ((n ||| i:Nat):Int))).mono hcB)).stays (O7.out.stays hbB)
            all_goals first
             | exact ⟨⟨false,f,n ||| i,s7,rfl,or_lt _ _ hn hi,(fun h=>by cases h),(fun _=>by rw [HR3.out,flagsL_end HQ.out Q7.out,takes_no Q7.out];rfl),(K6.out.set7 (n ||| i)).only O7.out hcb,⟨e.set,e.names,e.items,e.keys,e.lit⟩,R7.out,((TC.out.trans O6.out.two).trans (Two.set _ hbc _ _)).trans O7.out.two⟩,by simp [moreM]⟩
             | exact ⟨⟨true,f,n ||| i,s7,rfl,or_lt _ _ hn hi,(fun _=>⟨by rw [HR3.out,flagsL_on HQ.out Q7.out],by have:=takes_lt Q7.out;simp at this;omega⟩),(fun h=>by cases h),(K6.out.set7 (n ||| i)).only O7.out hcb,⟨e.set,e.names,e.items,e.keys,e.lit⟩,R7.out,((TC.out.trans O6.out.two).trans (Two.set _ hbc _ _)).trans O7.out.two⟩,by have:=takes_lt Q7.out;simp at this;simp [moreM,rdLen_of R7.out,rdLen_of RC.out];omega⟩
          · go_simp
            refine (hfg _ RC.out.drew).mono ?_
            rintro e w6 ⟨o6,y6,rfl,rfl,r6⟩
            have k6:=KC.out.drew.only o6 hcb
            have i6:=k6.c7
            have j6:=k6.free 7
            have R6:=hid r6
            have O6:=hid (Only.trans (Only.of (Below.refl _ _).drew (Nat.le_of_lt RC.out.lt)) o6)
            have K6:=hid k6
            clear r6 o6 k6
            go_wp2_with fail
            refine hK.out _ _ ?hst4 (fun hHeld2=>?_)
            case hst4=>exact trivial
            clear hK K hHeld
            have hHeld:=hHeld2
            clear hHeld2
            try simp only [sxa,sxb,sxc,Act.put,sxd,sxe,sxf]
            refine wpAnyH_ready (rs:=[3]) (by kernel_rfl) (by simp) ?_
            refine AllReadyH.cons (o:=_) rfl (fun K hK=>?_) AllReadyH.nil
            go_simp
            refine hK.out _ _ ?hst5 (fun hHeld2=>?_)
            case hst5=>exact trivial
            clear hK K hHeld
            have hHeld:=hHeld2
            clear hHeld2
            try simp only [sxa,sxb,sxc,Act.put,sxd,sxe,sxf]
            refine wpAnyH_take (i:=6) (oi:=_) (v:=?vtt5_6) rfl (by kernel_rfl) (by kernel_rfl) (by kernel_rfl) (fun _ _ _ h=>h) (Or.inl ⟨by rfl,?ytt5_6⟩) (by assumption) ?rtt5_6
            case ytt5_6=>(intro w hSw;(try dsimp only at hSw);go_simp;try with_reducible rfl)
            try simp only [sxa,sxb,sxc,Act.put,sxd,sxe,sxf]
            refine wpAnyH_take (i:=7) (oi:=_) (v:=?vtt5_7) rfl (by kernel_rfl) (by kernel_rfl) (by kernel_rfl) (fun _ _ _ h=>h) (Or.inl ⟨by rfl,?ytt5_7⟩) (by assumption) ?rtt5_7
            case ytt5_7=>(intro w hSw;(try dsimp only at hSw);go_simp;try with_reducible rfl)
            try simp only [sxa,sxb,sxc,Act.put,sxd,sxe,sxf]
            refine wpAnyH_take (i:=8) (oi:=_) (v:=?vtt5_8) rfl (by kernel_rfl) (by kernel_rfl) (by kernel_rfl) (fun _ _ _ h=>h) (Or.inl ⟨by rfl,?ytt5_8⟩) (by assumption) ?rtt5_8
            case ytt5_8=>(intro w hSw;(try dsimp only at hSw);go_simp;try with_reducible rfl)
            try simp only [sxa,sxb,sxc,Act.put,sxd,sxe,sxf]
            refine wpAnyH_ready (rs:=[9]) (by kernel_rfl) (by simp) ?_
            refine AllReadyH.cons (o:=_) rfl (fun K hK=>?_) AllReadyH.nil
            go_simp
            refine hK.out _ _ ?hst6 (fun hHeld2=>?_)
            case hst6=>exact trivial
            clear hK K hHeld
            have hHeld:=hHeld2
            clear hHeld2
            try simp only [sxa,sxb,sxc,Act.put,sxd,sxe,sxf]
            refine wpAnyH_done (by kernel_rfl) ?_ _
            go_wp2_with (go_at_call 26;refine (takes_any b t2 [32] _ (R6.out.far hbc _)).mono ?_;intro e w7 h7;rcases takes_cases h7 with ⟨s7,q7,rfl,r7,o7⟩ | ⟨s7,q7,rfl,r7,o7⟩ <;> (have Q7:=hid q7;have R7:=hid r7;have O7:=hid o7;clear q7 r7 o7 h7))
            all_goals
             have e:=((SC.out.stays (O6.out.stays hbB)).stays ((setStays w6 c 7 (.int .i64 ((n ||| i:Nat):Int))).mono hcB)).stays (O7.out.stays hbB)
            all_goals first
             | exact ⟨⟨false,f,n ||| i,s7,rfl,or_lt _ _ hn hi,(fun h=>by cases h),(fun _=>by rw [HR3.out,flagsL_end HQ.out Q7.out,takes_no Q7.out];rfl),(K6.out.set7 (n ||| i)).only O7.out hcb,⟨e.set,e.names,e.items,e.keys,e.lit⟩,R7.out,((TC.out.trans O6.out.two).trans (Two.set _ hbc _ _)).trans O7.out.two⟩,by simp [moreM]⟩
             | exact ⟨⟨true,f,n ||| i,s7,rfl,or_lt _ _ hn hi,(fun _=>⟨by rw [HR3.out,flagsL_on HQ.out Q7.out],by have:=takes_lt Q7.out;simp at this;omega⟩),(fun h=>by cases h),(K6.out.set7 (n ||| i)).only O7.out hcb,⟨e.set,e.names,e.items,e.keys,e.lit⟩,R7.out,((TC.out.trans O6.out.two).trans (Two.set _ hbc _ _)).trans O7.out.two⟩,by have:=takes_lt Q7.out;simp at this;simp [moreM,rdLen_of R7.out,rdLen_of RC.out];omega⟩
    · go_wp2_with (first
        | (go_at_call 25;refine (hwd _ R9.out).mono ?_;rintro e w10 ⟨rfl,r10,o10⟩;have k10:=K9.out.only o10 hcb;have u9:=k10.c9;have f9:=k10.free 9;have K10:=hid k10;have S10:=hid (S9.out.stays (o10.stays hbB));have R10:=hid r10;have O10:=hid o10;clear r10 o10 k10)
        | (go_at_call 28;refine (must_t _).mono ?_;rintro e w11 ⟨rfl,he⟩;obtain rfl:=he.symm)
        | (go_at_call 53;refine (sign_any b t1 [32] _ (R10.out.far hbc _)).mono ?_;intro e w12 h12;rcases sign_cases h12 with ⟨q12,rfl,o12⟩ | ⟨s12,q12,rfl,r12,o12⟩ <;> (have T12:=hid (((T9.out.trans O10.out.two).trans (Two.set _ hbc _ _)).trans o12.two);have Q12:=hid q12;have Y12:=hid o12;first | (have R12:=hid r12;clear r12 o12 q12 h12) | clear o12 q12 h12))
        | (go_at_call 91;refine (sees_any b s12 [40] _ R12.out).mono ?_;rintro e w13 ⟨h13,he⟩;obtain rfl:=he.symm;rcases bool_split h13 with ⟨q13,rfl⟩ | ⟨q13,rfl⟩ <;> (have Q13:=hid q13;clear q13 h13))
        | (go_at_call 95;refine (list_any b s12 _ R12.out).mono ?_;intro e w14 h14;rcases h14.cases with ⟨q14,rfl,o14⟩ | ⟨n14,s14,y14,q14,rfl,rfl,r14,o14⟩ <;> (first | (have k14:=((K10.out.set9 _).only Y12.out hcb).only o14 hcb;have u7:=k14.c7;have f7:=k14.free 7;have K14:=hid k14;have R14:=hid r14;have O14:=hid o14;have Q14:=hid q14;clear r14 o14 q14 h14 k14) | (have O14:=hid o14;have Q14:=hid q14;clear o14 q14 h14))))
      all_goals first
       | (refine ⟨rfl,FormPost.panic ?_ T12.out⟩;rw [HR4.out,Q12.out];rfl)
       | (refine ⟨rfl,FormPost.panic ?_ (T12.out.trans O14.out.two)⟩;rw [HR4.out,Q12.out,Option.bind_some,if_pos Q13.out,Q14.out];rfl)
       | skip
      all_goals first
       | (go_end0;have e:=(((S10.out.stays ((setStays w10 c 9 (.bool false)).mono hcB)).stays (Y12.out.stays hbB)).stays (O14.out.stays hbB)).stays ((setStays w14 c 7 (.int .i64 n14)).mono hcB);exact FormPost.give (by rw [HR4.out,Q12.out,Option.bind_some,if_pos Q13.out,Q14.out];rfl) ((T12.out.trans O14.out.two).trans (Two.set _ hbc _ _)) (R14.out.far hbc _) (K14.out.set7 n14) ⟨e.set,e.names,e.items,e.keys,e.lit⟩)
       | skip
      all_goals
       have hR5:R = (flagsL (s12.length + 1) x.flags s12).map fun r=>({ x with set:=x2,mode:=m,silent:=false,flags:=r.1 },r.2):=by rw [HR4.out,Q12.out,Option.bind_some,if_neg (by rw [Q13.out];simp)]
       have k12:=(K10.out.set9 _).only Y12.out hcb
       have K12:=hid k12
       have e12:=(S10.out.stays ((setStays w10 c 9 (.bool false)).mono hcB)).stays (Y12.out.stays hbB)
       have S12:Hid (CmRows B w12 { x with set:=x2,mode:=m,silent:=false } { v with set:=.slice A2 x2.length c2 }):=hid ⟨e12.set,e12.names,e12.items,e12.keys,e12.lit⟩
       clear k12 e12
       go_loopw [5] (fun v5 wr=>∃ (more:Bool) (f n:Nat) (t':Bt),v5 = .bool more∧n < 32∧(more = true→R = (flagsL f n t').map (fun r=>({ x with set:=x2,mode:=m,silent:=false,flags:=r.1 },r.2))∧t'.length < f)∧(more = false→R = some ({ x with set:=x2,mode:=m,silent:=false,flags:=n },t'))∧CmAt wr c { x with set:=x2,mode:=m,silent:=false,flags:=n } { v with set:=.slice A2 x2.length c2 }∧CmRows B wr { x with set:=x2,mode:=m,silent:=false,flags:=n } { v with set:=.slice A2 x2.length c2 }∧RdI wr b t'∧Two b c w wr) (fun v5 wr=>moreM b v5 wr)
       case atStart=>exact ⟨true,_,0,s12,rfl,by decide,fun _=>⟨by rw [hR5,hfl],Nat.lt_succ_self _⟩,(fun h=>by cases h),(show CmAt w12 c _ _ from by have k:=K12.out;unfold CmAt at k ⊢;rw [k,hfl]),(have e:=S12.out;⟨e.set,e.names,e.items,e.keys,e.lit⟩),R12.out,T12.out⟩
       case round =>
        obtain ⟨more,f,n,t',rfl,hn,hr1,hr2,hc,hv,hrd,ht⟩:=hrel
        have KC:=hid hc
        have SC:=hid hv
        have RC:=hid hrd
        have TC:=hid ht
        cases more with
        | false =>
         have HR6:=hid (hr2 rfl)
         clear hc hv hrd ht hr1 hr2 hR5
         go_wp2_with fail
         go_end0
         exact FormPost.give HR6.out TC.out RC.out KC.out SC.out
        | true =>
         obtain ⟨hr3,hlf⟩:=hr1 rfl
         obtain ⟨f,rfl⟩:∃ k,f = k + 1:=⟨f - 1,by omega⟩
         have i0:wr.drew.cell? ⟨c,7,none⟩ = some (.int .i64 n):=hc.c7
         have hfg:=fun W hW=>flag_any b t' W hW
         obtain ⟨q,hq⟩:∃ q,Im.flag t' = q:=⟨_,rfl⟩
         rw [hq] at hfg
         clear hc hv hrd ht hr1 hr2 hR5
         cases q with
         | none =>
          have HR6:Hid (R = none):=hid (by rw [hr3,flagsL_none hq];rfl)
          clear hr3 hq
          go_wp2_with fail
          refine wp_region_held_drew (S:=fun w'=>w'.cell? ⟨c,7,none⟩ = some (.int .i64 n)) (by kernel_rfl) i0 (fun hHeld=>?_)
          refine wpAnyH_take (i:=0) (oi:=_) (v:=?vuf0) rfl (by kernel_rfl) (by kernel_rfl) (by kernel_rfl) (fun _ _ _ h=>h) (Or.inl ⟨by rfl,?yuf0⟩) (by assumption) ?ruf0
          case yuf0=>(intro w hSw;(try dsimp only at hSw);go_simp;try with_reducible rfl)
          try simp only [sxa,sxb,sxc,Act.put,sxd,sxe,sxf]
          refine wpAnyH_take (i:=1) (oi:=_) (v:=?vuf1) rfl (by kernel_rfl) (by kernel_rfl) (by kernel_rfl) (fun _ _ _ h=>h) (Or.inl ⟨by rfl,?yuf1⟩) (by assumption) ?ruf1
          case yuf1=>(intro w hSw;(try dsimp only at hSw);go_simp;try with_reducible rfl)
          try simp only [sxa,sxb,sxc,Act.put,sxd,sxe,sxf]
          refine wpAnyH_take (i:=2) (oi:=_) (v:=?vuf2) rfl (by kernel_rfl) (by kernel_rfl) (by kernel_rfl) (fun _ _ _ h=>h) (Or.inl ⟨by rfl,?yuf2⟩) (by assumption) ?ruf2
          case yuf2=>(intro w hSw;(try dsimp only at hSw);go_simp;try with_reducible rfl)
          try simp only [sxa,sxb,sxc,Act.put,sxd,sxe,sxf]
          refine wpAnyH_take (i:=3) (oi:=_) (v:=?vuf3) rfl (by kernel_rfl) (by kernel_rfl) (by kernel_rfl) (fun _ _ _ h=>h) (Or.inl ⟨by rfl,?yuf3⟩) (by assumption) ?ruf3
          case yuf3=>(intro w hSw;(try dsimp only at hSw);go_simp;try with_reducible rfl)
          try simp only [sxa,sxb,sxc,Act.put,sxd,sxe,sxf]
          refine wpAnyH_take (i:=4) (oi:=_) (v:=?vuf4) rfl (by kernel_rfl) (by kernel_rfl) (by kernel_rfl) (fun _ _ _ h=>h) (Or.inl ⟨by rfl,?yuf4⟩) (by assumption) ?ruf4
          case yuf4=>(intro w hSw;(try dsimp only at hSw);go_simp;try with_reducible rfl)
          try simp only [sxa,sxb,sxc,Act.put,sxd,sxe,sxf]
          refine wpAnyH_ready (rs:=[5]) (by kernel_rfl) (by simp) ?_
          refine AllReadyH.cons (o:=_) rfl (fun K hK=>?_) AllReadyH.nil
          go_simp
          refine (hfg _ RC.out.drew).mono ?_
          rintro e w6 ⟨o6,rfl⟩
          exact ⟨rfl,FormPost.panic HR6.out (TC.out.trans (Only.trans (Only.of (Below.refl _ _).drew (Nat.le_of_lt RC.out.lt)) o6).two)⟩
         | some q =>
          obtain ⟨i,t2⟩:=q
          have hi:=flag_b hq
          have hlt:=flag_lt hq
          have hor:=or_i64 n i hn hi
          have HR3:=hid hr3
          have HQ:=hid hq
          clear hr3 hq
          go_wp2_with fail
          refine wp_region_held_drew (S:=fun _=>True) (by kernel_rfl) trivial (fun hHeld=>?_)
          refine wpAnyH_take (i:=0) (oi:=_) (v:=?vvf0) rfl (by kernel_rfl) (by kernel_rfl) (by kernel_rfl) (fun _ _ _ h=>h) (Or.inl ⟨by rfl,?yvf0⟩) (by assumption) ?rvf0
          case yvf0=>(intro w hSw;(try dsimp only at hSw);go_simp;try with_reducible rfl)
          try simp only [sxa,sxb,sxc,Act.put,sxd,sxe,sxf]
          refine wpAnyH_take (i:=1) (oi:=_) (v:=?vvf1) rfl (by kernel_rfl) (by kernel_rfl) (by kernel_rfl) (fun _ _ _ h=>h) (Or.inl ⟨by rfl,?yvf1⟩) (by assumption) ?rvf1
          case yvf1=>(intro w hSw;(try dsimp only at hSw);go_simp;try with_reducible rfl)
          try simp only [sxa,sxb,sxc,Act.put,sxd,sxe,sxf]
          refine wpAnyH_take (i:=2) (oi:=_) (v:=?vvf2) rfl (by kernel_rfl) (by kernel_rfl) (by kernel_rfl) (fun _ _ _ h=>h) (Or.inl ⟨by rfl,?yvf2⟩) (by assumption) ?rvf2
          case yvf2=>(intro w hSw;(try dsimp only at hSw);go_simp;try with_reducible rfl)
          try simp only [sxa,sxb,sxc,Act.put,sxd,sxe,sxf]
          refine wpAnyH_take (i:=4) (oi:=_) (v:=?vvf4) rfl (by kernel_rfl) (by kernel_rfl) (by kernel_rfl) (fun _ _ _ h=>h) (Or.inl ⟨by rfl,?yvf4⟩) (by assumption) ?rvf4
          case yvf4=>(intro w hSw;(try dsimp only at hSw);go_simp;try with_reducible rfl)
          try simp only [sxa,sxb,sxc,Act.put,sxd,sxe,sxf]
          refine wpAnyH_ready (rs:=[3,5]) (by kernel_rfl) (by simp) ?_
          refine AllReadyH.cons (o:=_) rfl (fun K hK=>?_) (AllReadyH.cons (o:=_) rfl (fun K hK=>?_) AllReadyH.nil)
          · go_simp
            refine hK.out _ _ ?hsf1 (fun hHeld2=>?_)
            case hsf1=>exact trivial
            clear hK K hHeld
            have hHeld:=hHeld2
            clear hHeld2
            try simp only [sxa,sxb,sxc,Act.put,sxd,sxe,sxf]
            refine wpAnyH_ready (rs:=[5]) (by kernel_rfl) (by simp) ?_
            refine AllReadyH.cons (o:=_) rfl (fun K hK=>?_) AllReadyH.nil
            go_simp
            refine (hfg _ RC.out.drew).mono ?_
            rintro e w6 ⟨o6,y6,rfl,rfl,r6⟩
            have k6:=KC.out.drew.only o6 hcb
            have i6:=k6.c7
            have j6:=k6.free 7
            have R6:=hid r6
            have O6:=hid (Only.trans (Only.of (Below.refl _ _).drew (Nat.le_of_lt RC.out.lt)) o6)
            have K6:=hid k6
            clear r6 o6 k6
            go_wp2_with fail
            refine hK.out _ _ ?hsf2 (fun hHeld2=>?_)
            case hsf2=>exact trivial
            clear hK K hHeld
            have hHeld:=hHeld2
            clear hHeld2
            try simp only [sxa,sxb,sxc,Act.put,sxd,sxe,sxf]
            refine wpAnyH_take (i:=6) (oi:=_) (v:=?vft2_6) rfl (by kernel_rfl) (by kernel_rfl) (by kernel_rfl) (fun _ _ _ h=>h) (Or.inl ⟨by rfl,?yft2_6⟩) (by assumption) ?rft2_6
            case yft2_6=>(intro w hSw;(try dsimp only at hSw);go_simp;try with_reducible rfl)
            try simp only [sxa,sxb,sxc,Act.put,sxd,sxe,sxf]
            refine wpAnyH_take (i:=7) (oi:=_) (v:=?vft2_7) rfl (by kernel_rfl) (by kernel_rfl) (by kernel_rfl) (fun _ _ _ h=>h) (Or.inl ⟨by rfl,?yft2_7⟩) (by assumption) ?rft2_7
            case yft2_7=>(intro w hSw;(try dsimp only at hSw);go_simp;try with_reducible rfl)
            try simp only [sxa,sxb,sxc,Act.put,sxd,sxe,sxf]
            refine wpAnyH_take (i:=8) (oi:=_) (v:=?vft2_8) rfl (by kernel_rfl) (by kernel_rfl) (by kernel_rfl) (fun _ _ _ h=>h) (Or.inl ⟨by rfl,?yft2_8⟩) (by assumption) ?rft2_8
            case yft2_8=>(intro w hSw;(try dsimp only at hSw);go_simp;try with_reducible rfl)
            try simp only [sxa,sxb,sxc,Act.put,sxd,sxe,sxf]
            refine wpAnyH_ready (rs:=[9]) (by kernel_rfl) (by simp) ?_
            refine AllReadyH.cons (o:=_) rfl (fun K hK=>?_) AllReadyH.nil
            go_simp
            refine hK.out _ _ ?hsf3 (fun hHeld2=>?_)
            case hsf3=>exact trivial
            clear hK K hHeld
            have hHeld:=hHeld2
            clear hHeld2
            try simp only [sxa,sxb,sxc,Act.put,sxd,sxe,sxf]
            refine wpAnyH_done (by kernel_rfl) ?_ _
            go_wp2_with (go_at_call 26;refine (takes_any b t2 [32] _ (R6.out.far hbc _)).mono ?_;intro e w7 h7;rcases takes_cases h7 with ⟨s7,q7,rfl,r7,o7⟩ | ⟨s7,q7,rfl,r7,o7⟩ <;> (have Q7:=hid q7;have R7:=hid r7;have O7:=hid o7;clear q7 r7 o7 h7))
            all_goals
             have e:=((SC.out.stays (O6.out.stays hbB)).stays ((setStays w6 c 7 (.int .i64 ((n ||| i:Nat):Int))).mono hcB)).stays (O7.out.stays hbB)
            all_goals first
             | exact ⟨⟨false,f,n ||| i,s7,rfl,or_lt _ _ hn hi,(fun h=>by cases h),(fun _=>by rw [HR3.out,flagsL_end HQ.out Q7.out,takes_no Q7.out];rfl),(K6.out.set7 (n ||| i)).only O7.out hcb,⟨e.set,e.names,e.items,e.keys,e.lit⟩,R7.out,((TC.out.trans O6.out.two).trans (Two.set _ hbc _ _)).trans O7.out.two⟩,by simp [moreM]⟩
             | exact ⟨⟨true,f,n ||| i,s7,rfl,or_lt _ _ hn hi,(fun _=>⟨by rw [HR3.out,flagsL_on HQ.out Q7.out],by have:=takes_lt Q7.out;simp at this;omega⟩),(fun h=>by cases h),(K6.out.set7 (n ||| i)).only O7.out hcb,⟨e.set,e.names,e.items,e.keys,e.lit⟩,R7.out,((TC.out.trans O6.out.two).trans (Two.set _ hbc _ _)).trans O7.out.two⟩,by have:=takes_lt Q7.out;simp at this;simp [moreM,rdLen_of R7.out,rdLen_of RC.out];omega⟩
          · go_simp
            refine (hfg _ RC.out.drew).mono ?_
            rintro e w6 ⟨o6,y6,rfl,rfl,r6⟩
            have k6:=KC.out.drew.only o6 hcb
            have i6:=k6.c7
            have j6:=k6.free 7
            have R6:=hid r6
            have O6:=hid (Only.trans (Only.of (Below.refl _ _).drew (Nat.le_of_lt RC.out.lt)) o6)
            have K6:=hid k6
            clear r6 o6 k6
            go_wp2_with fail
            refine hK.out _ _ ?hsf4 (fun hHeld2=>?_)
            case hsf4=>exact trivial
            clear hK K hHeld
            have hHeld:=hHeld2
            clear hHeld2
            try simp only [sxa,sxb,sxc,Act.put,sxd,sxe,sxf]
            refine wpAnyH_ready (rs:=[3]) (by kernel_rfl) (by simp) ?_
            refine AllReadyH.cons (o:=_) rfl (fun K hK=>?_) AllReadyH.nil
            go_simp
            refine hK.out _ _ ?hsf5 (fun hHeld2=>?_)
            case hsf5=>exact trivial
            clear hK K hHeld
            have hHeld:=hHeld2
            clear hHeld2
            try simp only [sxa,sxb,sxc,Act.put,sxd,sxe,sxf]
            refine wpAnyH_take (i:=6) (oi:=_) (v:=?vft5_6) rfl (by kernel_rfl) (by kernel_rfl) (by kernel_rfl) (fun _ _ _ h=>h) (Or.inl ⟨by rfl,?yft5_6⟩) (by assumption) ?rft5_6
            case yft5_6=>(intro w hSw;(try dsimp only at hSw);go_simp;try with_reducible rfl)
            try simp only [sxa,sxb,sxc,Act.put,sxd,sxe,sxf]
            refine wpAnyH_take (i:=7) (oi:=_) (v:=?vft5_7) rfl (by kernel_rfl) (by kernel_rfl) (by kernel_rfl) (fun _ _ _ h=>h) (Or.inl ⟨by rfl,?yft5_7⟩) (by assumption) ?rft5_7
            case yft5_7=>(intro w hSw;(try dsimp only at hSw);go_simp;try with_reducible rfl)
            try simp only [sxa,sxb,sxc,Act.put,sxd,sxe,sxf]
            refine wpAnyH_take (i:=8) (oi:=_) (v:=?vft5_8) rfl (by kernel_rfl) (by kernel_rfl) (by kernel_rfl) (fun _ _ _ h=>h) (Or.inl ⟨by rfl,?yft5_8⟩) (by assumption) ?rft5_8
            case yft5_8=>(intro w hSw;(try dsimp only at hSw);go_simp;try with_reducible rfl)
            try simp only [sxa,sxb,sxc,Act.put,sxd,sxe,sxf]
            refine wpAnyH_ready (rs:=[9]) (by kernel_rfl) (by simp) ?_
            refine AllReadyH.cons (o:=_) rfl (fun K hK=>?_) AllReadyH.nil
            go_simp
            refine hK.out _ _ ?hsf6 (fun hHeld2=>?_)
            case hsf6=>exact trivial
            clear hK K hHeld
            have hHeld:=hHeld2
            clear hHeld2
            try simp only [sxa,sxb,sxc,Act.put,sxd,sxe,sxf]
            refine wpAnyH_done (by kernel_rfl) ?_ _
            go_wp2_with (go_at_call 26;refine (takes_any b t2 [32] _ (R6.out.far hbc _)).mono ?_;intro e w7 h7;rcases takes_cases h7 with ⟨s7,q7,rfl,r7,o7⟩ | ⟨s7,q7,rfl,r7,o7⟩ <;> (have Q7:=hid q7;have R7:=hid r7;have O7:=hid o7;clear q7 r7 o7 h7))
            all_goals
             have e:=((SC.out.stays (O6.out.stays hbB)).stays ((setStays w6 c 7 (.int .i64 ((n ||| i:Nat):Int))).mono hcB)).stays (O7.out.stays hbB)
            all_goals first
             | exact ⟨⟨false,f,n ||| i,s7,rfl,or_lt _ _ hn hi,(fun h=>by cases h),(fun _=>by rw [HR3.out,flagsL_end HQ.out Q7.out,takes_no Q7.out];rfl),(K6.out.set7 (n ||| i)).only O7.out hcb,⟨e.set,e.names,e.items,e.keys,e.lit⟩,R7.out,((TC.out.trans O6.out.two).trans (Two.set _ hbc _ _)).trans O7.out.two⟩,by simp [moreM]⟩
             | exact ⟨⟨true,f,n ||| i,s7,rfl,or_lt _ _ hn hi,(fun _=>⟨by rw [HR3.out,flagsL_on HQ.out Q7.out],by have:=takes_lt Q7.out;simp at this;omega⟩),(fun h=>by cases h),(K6.out.set7 (n ||| i)).only O7.out hcb,⟨e.set,e.names,e.items,e.keys,e.lit⟩,R7.out,((TC.out.trans O6.out.two).trans (Two.set _ hbc _ _)).trans O7.out.two⟩,by have:=takes_lt Q7.out;simp at this;simp [moreM,rdLen_of R7.out,rdLen_of RC.out];omega⟩
end Go.Proofs.YtfdmdmahddjjmaaGreatDoor
