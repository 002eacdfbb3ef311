/-
  Joined texts: RfC RfD RfE.
-/
import Derived.Test.YtfdmdmahddjjmaaGreatDoorKRfB
import Derived.Test.YtfdmdmahddjjmaaGreatDoorPkSq2
import Derived.Test.YtfdmdmahddjjmaaGreatDoorPkIm1
import Derived.Test.YtfdmdmahddjjmaaGreatDoorPkOwn
set_option linter.unusedVariables false
set_option linter.unusedSimpArgs false
set_option maxRecDepth 100000
namespace Go.Proofs.YtfdmdmahddjjmaaGreatDoor
open Go.RowKit Own Im
attribute [local go_sem] str_toList str_size
theorem rword_any (b:Nat) (s:Bt) (bad:Bool) (w:World) (h:RtT w b s bad) :
  Calls Tryz.prog 32 #[.pointer (some ⟨b,0,none⟩)] w fun e w'=>e = .returned (.string (str (Im.word s).1))∧RtT w' b (Im.word s).2 bad∧Only b w w':=by
 have hgr:=fun W=>rgreat_any (s.takeWhile letB) W (by have:=run_len letB s;have:=h.len;omega)
 have H:=hid h
 clear h
 go_enter Tryz.func32,Tryz.ntmps32
 go_wp2_with (first
  | (go_at_call 71;refine (rrun3_any b s bad _ H.out).mono ?_;rintro e w1 ⟨rfl,r1,o1⟩;have R1:=hid r1;have O1:=hid o1;clear r1 o1)
  | (go_at_call 12;refine (hgr _).mono ?_;rintro e w2 ⟨rfl,b2⟩;have B2:=hid b2;clear b2))
 go_ret
 exact ⟨rfl,R1.out.below B2.out,O1.out.trans (Only.of B2.out (Nat.le_of_lt R1.out.lt))⟩
set_option maxHeartbeats 2000000 in
theorem rnum_any (b:Nat) (s:Bt) (lo hi:Int) (bad:Bool) (w:World) (h:RtT w b s bad) :
  Calls Tryz.prog 113 #[.pointer (some ⟨b,0,none⟩),.int .i64 lo,.int .i64 hi] w fun e w'=>Goes b w s bad vInt (number lo hi s) e w':=by
 have hrl:=rest_len isDg s
 have hnu:=fun W=>rnumber_any (s.takeWhile isDg) hi W (by have:=run_len isDg s;have:=h.len;omega)
 obtain ⟨n,ok,hq⟩:∃ n ok,Dec.numR (s.takeWhile isDg) hi = (n,ok):=⟨_,_,rfl⟩
 have hspec:number lo hi s = if ok = true∧lo ≤ n then some (n,s.dropWhile isDg) else none:=by unfold number;rw [hq]
 rw [hq] at hnu
 dsimp only at hnu
 obtain ⟨R,hR⟩:∃ R,R = number lo hi s:=⟨_,rfl⟩
 rw [← hR]
 have HR:=hid (hR.trans hspec)
 have H:=hid h
 clear h hq hspec hR
 have hcs:(∃ k:Bool,(decide (n < lo)) = k∧(lo ≤ n ↔ k = false)):=⟨_,rfl,by simp⟩
 obtain ⟨k,hk,hkk⟩:=hcs
 have HKK:=hid hkk
 clear hkk
 cases bad <;> cases ok <;> cases k
 all_goals
  go_enter Tryz.func113,Tryz.ntmps113
  go_wp2_with (first
   | (go_at_call 71;refine (rrun4_any b s _ _ H.out).mono ?_;rintro e w1 ⟨rfl,r1,o1⟩;have R1:=hid r1;have O1:=hid o1;clear r1 o1)
   | (go_at_call 39;refine (hnu _).mono ?_;rintro e w2 ⟨rfl,b2⟩;have g2:=R1.out.below b2;have c1:=g2.c1;have f1:=g2.free 1;have R2:=hid g2;have O2:=hid (O1.out.trans (Only.of b2 (Nat.le_of_lt R1.out.lt)));clear b2 g2))
  go_ret
  first
   | exact ⟨_,n,_,true,rfl,rfl,R2.out.set1 true,hrl,O2.out.trans (Only.set _ _ _ _),fun _=>rfl,fun e _=>by first | (cases e;done) | (rw [HR.out,if_neg (by simp [HKK.out])]),fun e1 e2=>by cases e2⟩
   | exact ⟨_,n,_,false,rfl,rfl,R2.out.set1 false,hrl,O2.out.trans (Only.set _ _ _ _),fun e=>(by cases e),fun _ e=>(by cases e),fun _ _=>by rw [HR.out,if_pos ⟨by first | rfl | trivial,by have h:=HKK.out;simpa using h⟩]⟩
set_option maxHeartbeats 2000000 in
theorem rset_any (b:Nat) (s:Bt) (bad:Bool) (w:World) (h:RtT w b s bad) :
  Calls Tryz.prog 78 #[.pointer (some ⟨b,0,none⟩)] w fun e w'=>Goes b w s bad (vSet w.heap.size) (Im.set s) e w':=by
 have hrl:=rest_len rangedB s
 have hpa:=fun W=>Sq.rparse_any (s.takeWhile rangedB) W (by have:=run_len rangedB s;have:=h.len;omega)
 obtain ⟨l,k,hq⟩:∃ l k,Sq.Sq.parseS (s.takeWhile rangedB) = (l,k):=⟨_,_,rfl⟩
 have hspec:Im.set s = if k = 0 then some (l,s.dropWhile rangedB) else none:=by unfold Im.set;rw [hq]
 rw [hq] at hpa
 dsimp only at hpa
 obtain ⟨R,hR⟩:∃ R,R = Im.set s:=⟨_,rfl⟩
 rw [← hR]
 have HR:=hid (hR.trans hspec)
 have H:=hid h
 clear h hq hspec hR
 obtain ⟨d,hd,hdd⟩:∃ d:Bool,(k != 0) = d∧(k = 0 ↔ d = false):=⟨_,rfl,by simp⟩
 have HDD:=hid hdd
 clear hdd
 cases bad <;> cases d
 all_goals
  go_enter Tryz.func78,Tryz.ntmps78
  go_wp2_with (first
   | (go_at_call 71;refine (rrun5_any b s _ _ H.out).mono ?_;rintro e w1 ⟨rfl,r1,o1⟩;have R1:=hid r1;have O1:=hid o1;clear r1 o1)
   | (go_at_call 111;refine (hpa _).mono ?_;rintro e w2 ⟨v2,rfl,n2,b2⟩;obtain ⟨A2,c2,rfl,-,-⟩:=n2.full;have g2:=R1.out.below b2;have c1:=g2.c1;have f1:=g2.free 1;have R2:=hid g2;have N2:=hid (n2.mono O1.out.size);have O2:=hid (O1.out.trans (Only.of b2 (Nat.le_of_lt R1.out.lt)));clear b2 g2 n2))
  go_ret
  have hbw:b + 1 ≤ w.heap.size:=H.out.lt
  first
   | exact ⟨_,l,_,true,rfl,N2.out.stays ((setStays _ _ _ _).mono hbw),R2.out.set1 true,hrl,O2.out.trans (Only.set _ _ _ _),fun _=>rfl,fun e _=>by first | (cases e;done) | (rw [HR.out,if_neg (by simp [HDD.out])]),fun e1 e2=>by cases e2⟩
   | exact ⟨_,l,_,false,rfl,N2.out.stays ((setStays _ _ _ _).mono hbw),R2.out.set1 false,hrl,O2.out.trans (Only.set _ _ _ _),fun e=>(by cases e),fun _ e=>(by cases e),fun _ _=>by rw [HR.out,if_pos (by have h:=HDD.out;simpa using h)]⟩
theorem flag_ways (wd:Bt):(wd = [83,69,69,78]∧flagAt wd = some 0)∨(wd = [65,78,83,87,69,82,69,68]∧flagAt wd = some 1)∨(wd = [70,76,65,71,71,69,68]∧flagAt wd = some 2)∨(wd = [68,69,76,69,84,69,68]∧flagAt wd = some 3)∨(wd = [68,82,65,70,84]∧flagAt wd = some 4)∨((wd == [83,69,69,78]) = false∧(wd == [65,78,83,87,69,82,69,68]) = false∧(wd == [70,76,65,71,71,69,68]) = false∧(wd == [68,69,76,69,84,69,68]) = false∧(wd == [68,82,65,70,84]) = false∧flagAt wd = none):=by
 by_cases h0:wd = [83,69,69,78]
 · subst h0
   exact .inl ⟨rfl,by decide⟩
 by_cases h1:wd = [65,78,83,87,69,82,69,68]
 · subst h1
   exact .inr (.inl ⟨rfl,by decide⟩)
 by_cases h2:wd = [70,76,65,71,71,69,68]
 · subst h2
   exact .inr (.inr (.inl ⟨rfl,by decide⟩))
 by_cases h3:wd = [68,69,76,69,84,69,68]
 · subst h3
   exact .inr (.inr (.inr (.inl ⟨rfl,by decide⟩)))
 by_cases h4:wd = [68,82,65,70,84]
 · subst h4
   exact .inr (.inr (.inr (.inr (.inl ⟨rfl,by decide⟩))))
 refine .inr (.inr (.inr (.inr (.inr ⟨by simpa using h0,by simpa using h1,by simpa using h2,by simpa using h3,by simpa using h4,?_⟩))))
 unfold flagAt
 rw [List.findIdx?_eq_none_iff]
 intro f hf
 simp only [flagNames,List.mem_cons,List.not_mem_nil,or_false] at hf
 rcases hf with rfl | rfl | rfl | rfl | rfl
 · exact beq_eq_false_iff_ne.2 (fun e=>h0 (e.symm.trans (by decide)))
 · exact beq_eq_false_iff_ne.2 (fun e=>h1 (e.symm.trans (by decide)))
 · exact beq_eq_false_iff_ne.2 (fun e=>h2 (e.symm.trans (by decide)))
 · exact beq_eq_false_iff_ne.2 (fun e=>h3 (e.symm.trans (by decide)))
 · exact beq_eq_false_iff_ne.2 (fun e=>h4 (e.symm.trans (by decide)))
abbrev vFlag5:Nat→Value→World→Prop:=fun n v _=>v = .int .i64 n∧n < 32
set_option maxHeartbeats 4000000 in
theorem rflag_any (b:Nat) (s:Bt) (bad:Bool) (w:World) (h:RtT w b s bad) :
  Calls Tryz.prog 79 #[.pointer (some ⟨b,0,none⟩)] w fun e w'=>Goes b w s bad vFlag5 (Im.flag s) e w':=by
 have H:=hid h
 clear h
 obtain ⟨R,hR⟩:∃ R,R = Im.flag s:=⟨_,rfl⟩
 rw [← hR]
 have hI:=Inv.start bad R
 have hI2:Inv bad R bad ((signR 92 s).bind fun q=>(flagAt (Im.word q.2).1).map fun i=>(2 ^ i,(Im.word q.2).2)):=hI.to fun _=>by
  rw [hR]
  unfold Im.flag signR
  cases sign [92] s <;> rfl
 have HI:=hid hI2
 clear hR hI hI2
 go_enter Tryz.func79,Tryz.ntmps79
 go_upto_block 0 with (first
  | (go_at_call 72;refine (rsign_any 92 92 rfl b s bad _ H.out).mono ?_;rintro e w1 ⟨v1,a1,s1,d1,rfl,rfl,r1,l1,o1,t1⟩;have R1:=hid r1;have O1:=hid o1;have HI1:=hid (HI.out.step t1);clear r1 o1 t1)
  | (go_at_call 32;refine (rword_any b s1 d1 _ R1.out).mono ?_;rintro e w2 ⟨rfl,r2,o2⟩;have c1:=r2.c1;have f1:=r2.free 1;have R2:=hid r2;have O2:=hid (O1.out.trans o2);clear r2 o2))
 have hi2:Inv bad R d1 ((flagAt (Im.word s1).1).map fun i=>(2 ^ i,(Im.word s1).2)):=HI1.out
 have hle:=word_le s1
 obtain ⟨wd,s2,hw⟩:∃ wd s2,Im.word s1 = (wd,s2):=⟨_,_,rfl⟩
 rw [hw] at hi2 hle R2
 rw [hw]
 dsimp only at hi2 hle R2 ⊢
 clear hw HI HI1
 rcases flag_ways wd with ⟨rfl,hf⟩ | ⟨rfl,hf⟩ | ⟨rfl,hf⟩ | ⟨rfl,hf⟩ | ⟨rfl,hf⟩ | ⟨e0,e1,e2,e3,e4,hf⟩
 · rw [hf] at hi2
   have HI2:=hid hi2
   clear hi2 hf
   go_wp2_with fail
   go_ret
   exact ⟨_,1,s2,d1,rfl,⟨rfl,by decide⟩,R2.out,Nat.le_trans hle l1,O2.out,Inv.out HI2.out⟩
 · rw [hf] at hi2
   have HI2:=hid hi2
   clear hi2 hf
   go_wp2_with fail
   go_ret
   exact ⟨_,2,s2,d1,rfl,⟨rfl,by decide⟩,R2.out,Nat.le_trans hle l1,O2.out,Inv.out HI2.out⟩
 · rw [hf] at hi2
   have HI2:=hid hi2
   clear hi2 hf
   go_wp2_with fail
   go_ret
   exact ⟨_,4,s2,d1,rfl,⟨rfl,by decide⟩,R2.out,Nat.le_trans hle l1,O2.out,Inv.out HI2.out⟩
 · rw [hf] at hi2
   have HI2:=hid hi2
   clear hi2 hf
   go_wp2_with fail
   go_ret
   exact ⟨_,8,s2,d1,rfl,⟨rfl,by decide⟩,R2.out,Nat.le_trans hle l1,O2.out,Inv.out HI2.out⟩
 · rw [hf] at hi2
   have HI2:=hid hi2
   clear hi2 hf
   go_wp2_with fail
   go_ret
   exact ⟨_,16,s2,d1,rfl,⟨rfl,by decide⟩,R2.out,Nat.le_trans hle l1,O2.out,Inv.out HI2.out⟩
 · rw [hf] at hi2
   have HI2:=hid hi2
   clear hi2 hf
   go_wp2_with fail
   go_ret
   exact ⟨_,0,s2,true,rfl,⟨rfl,by decide⟩,R2.out.set1 true,Nat.le_trans hle l1,O2.out.trans (Only.set _ _ _ _),Inv.out (Inv.fault HI2.out)⟩
end Go.Proofs.YtfdmdmahddjjmaaGreatDoor
namespace Go.Proofs.YtfdmdmahddjjmaaGreatDoor
open Go.RowKit Own Im
attribute [local go_sem] str_toList str_size
theorem numR_pos (l:Bt) (hi:Int):0 ≤ (Dec.numR l hi).1:=by
 unfold Dec.numR
 split
 · decide
 split
 · decide
 split
 · decide
 · exact Int.natCast_nonneg _
def litEnd (p:Int × Bool) (t:Bt):Option (Bt × Bt):=if p.2 = true∧p.1 ≤ (t.length:Int) then some (t.take p.1.toNat,t.drop p.1.toNat) else none
def litR (s:Bt):Option (Bt × Bt):=(signR 123 s).bind fun q0=>(signR 125 (q0.2.dropWhile isDg)).bind fun q1=>(signR 13 q1.2).bind fun q2=>(signR 10 q2.2).bind fun q3=>litEnd (Dec.numR (q0.2.takeWhile isDg) 4096) q3.2
theorem sign_three (t:Bt):sign [125,13,10] t = (sign [125] t).bind fun t=>(sign [13] t).bind fun t=>sign [10] t:=by
 rcases t with _ | ⟨a,_ | ⟨b,_ | ⟨c,r⟩⟩⟩
 · rfl
 · rw [sign_cons]
   by_cases h:a = 125
   · rw [if_pos h,Option.bind_some,sign_nil];simp [sign,Lib.hasPrefix,List.isPrefixOf]
   · rw [if_neg h];simp [sign,Lib.hasPrefix,List.isPrefixOf]
 · rw [sign_cons]
   by_cases h:a = 125
   · rw [if_pos h,Option.bind_some,sign_cons]
     by_cases h2:b = 13
     · rw [if_pos h2,Option.bind_some,sign_nil];simp [sign,Lib.hasPrefix,List.isPrefixOf]
     · rw [if_neg h2];simp [sign,Lib.hasPrefix,List.isPrefixOf]
   · rw [if_neg h];simp [sign,Lib.hasPrefix,List.isPrefixOf]
 · rw [sign_cons]
   by_cases h:a = 125
   · rw [if_pos h,Option.bind_some,sign_cons]
     by_cases h2:b = 13
     · rw [if_pos h2,Option.bind_some,sign_cons]
       by_cases h3:c = 10
       · rw [if_pos h3];simp [sign,Lib.hasPrefix,List.isPrefixOf,h,h2,h3]
       · rw [if_neg h3];simp [sign,Lib.hasPrefix,List.isPrefixOf,Ne.symm h3]
     · rw [if_neg h2];simp [sign,Lib.hasPrefix,List.isPrefixOf,Ne.symm h2]
   · rw [if_neg h];simp [sign,Lib.hasPrefix,List.isPrefixOf,Ne.symm h]
theorem literal_eq (s:Bt):literal s = litR s:=by
 unfold literal litR signR
 cases sign [123] s with
 | none=>rfl
 | some t =>
  simp only [Option.bind_some,Option.map_some]
  have hp:=numR_pos (t.takeWhile isDg) 4096
  unfold number litEnd
  obtain ⟨n,ok,hq⟩:∃ n ok,Dec.numR (t.takeWhile isDg) 4096 = (n,ok):=⟨_,_,rfl⟩
  rw [hq] at hp ⊢
  dsimp only at hp ⊢
  cases ok with
  | false =>
   rw [if_neg (by simp)]
   simp only [Option.bind_none]
   cases sign [125] (t.dropWhile isDg) with
   | none=>rfl
   | some t =>
    simp only [Option.map_some,Option.bind_some]
    cases sign [13] t with
    | none=>rfl
    | some t =>
     simp only [Option.map_some,Option.bind_some]
     cases sign [10] t with
     | none=>rfl
     | some t=>simp
  | true =>
   rw [if_pos ⟨rfl,hp⟩,Option.bind_some,sign_three]
   dsimp only
   cases sign [125] (t.dropWhile isDg) with
   | none=>rfl
   | some t =>
    simp only [Option.map_some,Option.bind_some]
    cases sign [13] t with
    | none=>rfl
    | some t =>
     simp only [Option.map_some,Option.bind_some]
     cases sign [10] t with
     | none=>rfl
     | some t=>simp
set_option maxHeartbeats 4000000 in
theorem rliteral_any (b:Nat) (s:Bt) (bad:Bool) (w:World) (h:RtT w b s bad) :
  Calls Tryz.prog 77 #[.pointer (some ⟨b,0,none⟩)] w fun e w'=>Goes b w s bad vText (literal s) e w':=by
 have H:=hid h
 clear h
 rw [literal_eq]
 obtain ⟨R,hR⟩:∃ R,R = litR s:=⟨_,rfl⟩
 rw [← hR]
 have hI2:Inv bad R bad (litR s):=(Inv.start bad R).to fun _=>hR
 have HI:=hid hI2
 clear hR hI2
 have tok0:Tk 0:=⟨⟩
 go_enter Tryz.func77,Tryz.ntmps77
 go_upto_region 6 with (first
  | (go_at_call 72;have t_:Tk 0:=‹Tk 0›;refine (rsign_any 123 123 rfl b s bad _ H.out).mono ?_;rintro e w1 ⟨v1,a1,s1,d1,rfl,rfl,r1,l1,o1,t1⟩;have R1:=hid r1;have O1:=hid o1;have I1:=hid (HI.out.step t1);have L1:=hid l1;clear r1 o1 t1 l1 t_ tok0;have tok1:Tk 1:=⟨⟩)
  | (go_at_call 71;refine (rrun4_any b s1 d1 _ R1.out).mono ?_;rintro e w2 ⟨rfl,r2,o2⟩;have R2:=hid r2;have O2:=hid (O1.out.trans o2);clear r2 o2)
  | (go_at_call 39;obtain ⟨n,ok,hq⟩:∃ n ok,Dec.numR (s1.takeWhile isDg) 4096 = (n,ok):=⟨_,_,rfl⟩;have hnu:=rnumber_any (s1.takeWhile isDg) 4096 w2 (by have:=run_len isDg s1;have:=L1.out;have:=H.out.len;omega);have hnp:=numR_pos (s1.takeWhile isDg) 4096;rw [hq] at hnu hnp;refine hnu.mono ?_;clear hnu;rintro e w3 ⟨rfl,b3⟩;have NP:=hid hnp;have HQ:=hid hq;have R3:=hid (R2.out.below b3);have O3:=hid (O2.out.trans (Only.of b3 (Nat.le_of_lt R2.out.lt)));clear b3 hnp hq)
  | (go_at_call 72;have t_:Tk 1:=‹Tk 1›;refine (rsign_any 125 125 rfl b (s1.dropWhile isDg) d1 _ R3.out).mono ?_;rintro e w4 ⟨v4,a4,s4,d4,rfl,rfl,r4,l4,o4,t4⟩;have R4:=hid r4;have O4:=hid (O3.out.trans o4);have I4:=hid (Inv.step (show Inv bad R d1 ((signR 125 (s1.dropWhile isDg)).bind fun q1=>(signR 13 q1.2).bind fun q2=>(signR 10 q2.2).bind fun q3=>litEnd (Dec.numR (s1.takeWhile isDg) 4096) q3.2) from I1.out) t4);have L4:=hid l4;clear r4 o4 t4 l4 t_ tok1;have tok2:Tk 2:=⟨⟩)
  | (go_at_call 72;have t_:Tk 2:=‹Tk 2›;refine (rsign_any 13 13 rfl b s4 d4 _ R4.out).mono ?_;rintro e w5 ⟨v5,a5,s5,d5,rfl,rfl,r5,l5,o5,t5⟩;have R5:=hid r5;have O5:=hid (O4.out.trans o5);have I5:=hid (Inv.step (show Inv bad R d4 ((signR 13 s4).bind fun q2=>(signR 10 q2.2).bind fun q3=>litEnd (Dec.numR (s1.takeWhile isDg) 4096) q3.2) from I4.out) t5);have L5:=hid l5;clear r5 o5 t5 l5 t_ tok2;have tok3:Tk 3:=⟨⟩)
  | (go_at_call 72;have t_:Tk 3:=‹Tk 3›;refine (rsign_any 10 10 rfl b s5 d5 _ R5.out).mono ?_;rintro e w6 ⟨v6,a6,s6,d6,rfl,rfl,r6,l6,o6,t6⟩;have c0:=r6.c0;have c1:=r6.c1;have f0:=r6.free 0;have f1:=r6.free 1;have R6:=hid r6;have O6:=hid (O5.out.trans o6);have I6:=hid (Inv.step (show Inv bad R d5 ((signR 10 s5).bind fun q3=>litEnd (Dec.numR (s1.takeWhile isDg) 4096) q3.2) from I5.out) t6);have L6:=hid l6;clear r6 o6 t6 l6 t_ tok3))
 have i6:Inv bad R d6 (litEnd (n,ok) s6):=by have:=I6.out;rw [HQ.out] at this;exact this
 have hz:=str_size s6
 have hl:s6.length ≤ s.length:=by
  have:=L6.out
  have:=L5.out
  have:=L4.out
  have:=L1.out
  have:=rest_len isDg s1
  omega
 obtain ⟨N,hN⟩:∃ N:Nat,n = (N:Int):=⟨n.toNat,by have:=NP.out;omega⟩
 subst hN
 have h6:=R6.out.len
 cases ok with
 | false =>
  have I7:=hid (i6.to (K':=none) fun _=>by unfold litEnd;rw [if_neg (by simp)])
  clear i6
  go_wp2_with fail
  go_ret
  exact ⟨_,[],s6,true,rfl,rfl,R6.out.set1 true,hl,O6.out.trans (Only.set _ _ _ _),Inv.out (Inv.fault I7.out)⟩
 | true =>
  cases d6 with
  | true =>
   have I7:=hid (i6.to (K':=none) fun e=>by cases e)
   clear i6
   go_wp2_with fail
   go_ret
   exact ⟨_,[],s6,true,rfl,rfl,R6.out.set1 true,hl,O6.out.trans (Only.set _ _ _ _),Inv.out (Inv.fault I7.out)⟩
  | false =>
   by_cases hlt:s6.length < N
   · have I7:=hid (i6.to (K':=none) fun _=>by unfold litEnd;rw [if_neg (by simp;omega)])
     have e1:decide ((s6.length:Int) < (N:Int)) = true:=decide_eq_true (by omega)
     clear i6
     go_wp2_with fail
     go_ret
     exact ⟨_,[],s6,true,rfl,rfl,R6.out.set1 true,hl,O6.out.trans (Only.set _ _ _ _),Inv.out (Inv.fault I7.out)⟩
   · have I7:=hid (i6.to (K':=some (s6.take N,s6.drop N)) fun _=>by unfold litEnd;rw [if_pos ⟨rfl,by dsimp only;omega⟩];rfl)
     have e1:decide ((s6.length:Int) < (N:Int)) = false:=decide_eq_false (by omega)
     have x1:(str s6).extract 0 N = str (s6.take N):=str_upto s6 N
     have x2:(str s6).extract N s6.length = str (s6.drop N):=str_from s6 N s6.length rfl
     have hn:N ≤ s6.length:=by omega
     have X1:=hid x1
     have X2:=hid x2
     clear i6 x1 x2 hlt
     go_wp2_with fail
     go_ret
     refine ⟨_,s6.take N,s6.drop N,false,rfl,?_,?_,?_,O6.out.trans (Only.set _ _ _ _),Inv.out I7.out⟩
     · show Value.string _ = _
       rw [X1.out]
     · rw [X2.out]
       exact R6.out.set0 _ (by simp)
     · simp
       omega
end Go.Proofs.YtfdmdmahddjjmaaGreatDoor
namespace Go.Proofs.YtfdmdmahddjjmaaGreatDoor
open Go.RowKit Own Im
attribute [local go_sem] str_toList str_size
def addO (o:Bt) (r:Option (Bt × Bt)):Option (Bt × Bt):=r.map fun q=>(o ++ q.1,q.2)
theorem quote_nil:quoteL [] = none:=by rw [quoteL.eq_def]
theorem quote_end (t:Bt):quoteL (34 :: t) = some ([],t):=by rw [quoteL.eq_def];rfl
theorem quote_bs_nil:quoteL [92] = none:=by rw [quoteL.eq_def];rfl
theorem quote_bs (d:UInt8) (t:Bt):quoteL (92 :: d :: t) = if d = 34∨d = 92 then (quoteL t).map fun q=>(d :: q.1,q.2) else none:=by rw [quoteL.eq_def];rfl
theorem quote_line (c:UInt8) (t:Bt) (h:c = 13∨c = 10):quoteL (c :: t) = none:=by
 rw [quoteL.eq_def]
 rcases h with rfl | rfl <;> rfl
theorem quote_on (c:UInt8) (t:Bt) (h1:c ≠ 34) (h2:c ≠ 92) (h3:c ≠ 13) (h4:c ≠ 10):quoteL (c :: t) = (quoteL t).map fun q=>(c :: q.1,q.2):=by
 rw [quoteL.eq_def]
 dsimp only
 rw [if_neg h1,if_neg h2,if_neg (by rintro (h | h);exact h3 h;exact h4 h)]
theorem addO_map (o:Bt) (c:UInt8) (r:Option (Bt × Bt)):addO o (r.map fun q=>(c :: q.1,q.2)) = addO (o ++ [c]) r:=by
 unfold addO
 cases r <;> simp
theorem quote_stop (o t:Bt) (h:t = []∨∃ r,t = 34 :: r):addO o (quoteL t) = (signR 34 t).bind fun q=>some (o,q.2):=by
 rcases h with rfl | ⟨r,rfl⟩
 · rw [quote_nil];unfold signR;rw [sign_nil];rfl
 · rw [quote_end];unfold signR;rw [sign_cons,if_pos rfl];simp [addO]
theorem Buf.slc {B:Nat} {w:World} {v:Value} {l:Bt} (h:Buf B w v l):∃ A n c,v = .slice A n c:=by
 obtain ⟨A,c,h1,-⟩:=h.slice
 exact ⟨A,_,c,h1⟩
theorem Buf.stays2 {b B:Nat} {w w':World} {v:Value} {l:Bt} (h:Buf B w v l) (ho:Only b w w') (hb:b < B):Buf B w' v l:=by
 refine ⟨⟨⟨h.1.1.1,?_⟩,h.1.2⟩,Nat.le_trans h.2 ho.size⟩
 rcases h.1.1.2 with hn | ⟨g,cap,cur,rfl,hb2,hg,rest⟩
 · exact .inl hn
 · have hB:B ≤ g:=h.1.2 g rfl
   exact .inr ⟨g,cap,cur,rfl,hb2,(ho.block (by omega) (lt_of_block hg)).trans hg,rest⟩
def rtLen (b:Nat) (w:World):Nat:=match w.cell? ⟨b,0,none⟩ with
 | some (.string t)=>t.size
 | _=>0
theorem rtLen_of {b:Nat} {w:World} {s:Bt} {bad:Bool} (h:RtT w b s bad):rtLen b w = s.length:=by
 unfold rtLen
 rw [h.c0]
 exact str_size s
theorem byte_cases (c:UInt8):(c = 34)∨(c ≠ 34∧c = 92)∨(c ≠ 34∧c ≠ 92∧(c = 13∨(c ≠ 13∧c = 10)))∨(c ≠ 34∧c ≠ 92∧c ≠ 13∧c ≠ 10):=by
 by_cases h1:c = 34
 · exact .inl h1
 by_cases h2:c = 92
 · exact .inr (.inl ⟨h1,h2⟩)
 by_cases h3:c = 13
 · exact .inr (.inr (.inl ⟨h1,h2,.inl h3⟩))
 by_cases h4:c = 10
 · exact .inr (.inr (.inl ⟨h1,h2,.inr ⟨h3,h4⟩⟩))
 · exact .inr (.inr (.inr ⟨h1,h2,h3,h4⟩))
theorem one_srcN (w:World) (n:Nat) (hn:n = w.heap.size) (c:UInt8) (x:Int) (hx:x = (c.toNat:Int)):Src (w.alloc (.cells #[.int .u8 x] 5)) (some ⟨n,0,none⟩) (bv [c]):=by
 subst hn
 exact one_src w c x hx
theorem empty_lit (w:World):Buf w.heap.size (w.alloc (.cells #[] 5)) (.slice (some ⟨w.heap.size,0,none⟩) 0 0) []:=Buf.lit w [] (by simp)
set_option maxHeartbeats 8000000 in
theorem rquoted_any (b:Nat) (s:Bt) (bad:Bool) (w:World) (h:RtT w b s bad) :
  Calls Tryz.prog 76 #[.pointer (some ⟨b,0,none⟩)] w fun e w'=>Goes b w s bad vText (Im.quoted s) e w':=by
 have H:=hid h
 have hlen:=h.len
 have hbw:=h.lt
 clear h
 obtain ⟨R,hR⟩:∃ R,R = Im.quoted s:=⟨_,rfl⟩
 rw [← hR]
 have hI2:Inv bad R bad ((signR 34 s).bind fun q=>quoteL q.2):=(Inv.start bad R).to fun _=>by
  rw [hR]
  unfold Im.quoted signR
  cases sign [34] s <;> rfl
 have HI:=hid hI2
 clear hR hI2
 go_enter Tryz.func76,Tryz.ntmps76
 go_wp2_with (go_at_call 72;refine (rsign_any 34 34 rfl b s bad _ H.out).mono ?_;rintro e w1 ⟨v1,a1,s1,d1,rfl,rfl,r1,l1,o1,t1⟩;have R1:=hid r1;have O1:=hid o1;have I1:=hid (HI.out.step t1);clear r1 o1 t1)
 go_loopw [3] (fun v3 wr=>∃ o t:Bt,Inv bad R d1 (addO o (quoteL t))∧RtT wr b t d1∧Buf w.heap.size wr v3 o∧Only b w wr∧o.length + t.length ≤ s.length) (fun _ wr=>rtLen b wr)
 case atStart=>exact ⟨[],s1,(show Inv bad R d1 (quoteL s1) from I1.out).to (fun _=>by unfold addO;cases quoteL s1 <;> simp),R1.out.below ((Below.refl _ _).alloc (Nat.le_refl _) _),⟨(empty_lit w1).1.mono fun k hk=>Nat.le_trans O1.out.size hk,by have:=O1.out.size;simp;omega⟩,O1.out.trans (Only.of ((Below.refl _ _).alloc (Nat.le_refl _) _) (Nat.le_of_lt R1.out.lt)),by simpa using l1⟩
 case round =>
  obtain ⟨o,t,hi,hrt,hbuf,ho,hol⟩:=hrel
  have c0:=hrt.c0
  have c1:=hrt.c1
  have f0:=hrt.free 0
  have f1:=hrt.free 1
  have II:=hid hi
  have RT:=hid hrt
  have HB:=hid hbuf
  have OO:=hid ho
  clear hi hrt hbuf ho
  cases t with
  | nil =>
   obtain ⟨A3,n3,k3,rfl⟩:=HB.out.slc
   have cvv:=fun (W:World) (hO:Only b wr W)=>(HB.out.stays2 hO hbw).conv
   have I2:Inv bad R d1 ((signR 34 []).bind fun q=>some (o,q.2)):=II.out.to fun _=>quote_stop o [] (.inl rfl)
   have J2:=hid I2
   clear I2
   go_wp2_with (go_at_call 72;refine (rsign_any 34 34 rfl b [] d1 _ RT.out).mono ?_;rintro e w5 ⟨v5,a5,s5,d5,rfl,rfl,r5,l5,o5,t5⟩;have cv:=cvv w5 o5;have R5:=hid r5;have O5:=hid (OO.out.trans o5);have I5:=hid (J2.out.step t5);have L5:=hid l5;clear r5 o5 t5 l5)
   go_ret
   exact ⟨_,o,s5,d5,rfl,rfl,R5.out,Nat.le_trans L5.out (by first | (simp;done) | (simp at hol ⊢;omega)),O5.out,Inv.out I5.out⟩
  | cons c t =>
   have hix:∀ h:0 < (str (c :: t)).size,(str (c :: t))[0] = c:=fun h=>rfl
   have hz:=str_size (c :: t)
   have hex:(str (c :: t)).extract 1 (t.length + 1) = str t:=by rw [str_from _ _ _ (by simp)];rfl
   have hz2:=str_size t
   rcases byte_cases c with rfl | ⟨h34,rfl⟩ | ⟨h34,h92,h⟩ | ⟨h34,h92,h13,h10⟩
   · obtain ⟨A3,n3,k3,rfl⟩:=HB.out.slc
     have cvv:=fun (W:World) (hO:Only b wr W)=>(HB.out.stays2 hO hbw).conv
     have I2:Inv bad R d1 ((signR 34 (34 :: t)).bind fun q=>some (o,q.2)):=II.out.to fun _=>quote_stop o (34 :: t) (.inr ⟨t,rfl⟩)
     have J2:=hid I2
     clear I2
     go_wp2_with (go_at_call 72;refine (rsign_any 34 34 rfl b (34 :: t) d1 _ RT.out).mono ?_;rintro e w5 ⟨v5,a5,s5,d5,rfl,rfl,r5,l5,o5,t5⟩;have cv:=cvv w5 o5;have R5:=hid r5;have O5:=hid (OO.out.trans o5);have I5:=hid (J2.out.step t5);have L5:=hid l5;clear r5 o5 t5 l5)
     go_ret
     exact ⟨_,o,s5,d5,rfl,rfl,R5.out,Nat.le_trans L5.out (by first | (simp;done) | (simp at hol ⊢;omega)),O5.out,Inv.out I5.out⟩
   · have he92:((((92:UInt8).toNat:Nat):Int) == 92) = true:=rfl
     cases t with
     | nil =>
      have hex3:(str [92]).extract 1 1 = str []:=hex
      clear hex
      have J2:Inv bad R d1 none:=II.out.to fun _=>by rw [quote_bs_nil];rfl
      have K2:=hid J2
      clear J2
      go_wp2_with fail
      go_ret
      exact ⟨_,[],[],true,rfl,rfl,(RT.out.set0 [] (by simp)).set1 true,by first | (simp;done) | (simp at hol ⊢;omega),((OO.out.trans (Only.set _ _ _ _)).trans (Only.set _ _ _ _)),Inv.out (Inv.fault K2.out)⟩
     | cons d t =>
      have hex3:(str (92 :: d :: t)).extract 1 (t.length + 1 + 1) = str (d :: t):=hex
      clear hex
      have hix2:∀ h:0 < (str (d :: t)).size,(str (d :: t))[0] = d:=fun h=>rfl
      have hz3:=str_size t
      have hex2:(str (d :: t)).extract 1 (t.length + 1) = str t:=by rw [str_from _ _ _ (by simp)];rfl
      have g34:((d.toNat:Int) != 34) = !decide (d = 34):=congrArg Bool.not (byte_eq2 34 d)
      have g92:((d.toNat:Int) != 92) = !decide (d = 92):=congrArg Bool.not (byte_eq2 92 d)
      by_cases hd:d = 34∨d = 92
      · have hq:=quote_bs d t
        rw [if_pos hd] at hq
        rcases hd with rfl | rfl
        · clear g34 g92
          have J2:Inv bad R d1 (addO (o ++ [34]) (quoteL t)):=II.out.to fun _=>by rw [hq];exact addO_map o 34 _
          have K2:=hid J2
          clear J2
          go_wp2_with (at_builtin;refine wpList_buf w.heap.size _ rfl _ _ rfl _ o [34] rfl ((HB.out.stays2 ((Only.set wr b 0 (.string (str (34 :: t)))).trans (Only.set _ b 0 (.string (str t)))) hbw).alloc _) _ 1 1 rfl rfl (one_srcN _ _ (by simp) 34 _ rfl) (by simp at hol ⊢;omega) ?_;intro v6 w6 hb6 hbel6;have O6:=hid (OO.out.trans ((Only.set wr b 0 (.string (str (34 :: t)))).trans (Only.set _ b 0 (.string (str t)))));have m6:=((Below.refl w.heap.size ((wr.setCell ⟨b,0,none⟩ (.string (str (34 :: t)))).setCell ⟨b,0,none⟩ (.string (str t)))).alloc O6.out.size _).trans hbel6;have R6:=hid (((RT.out.set0 (34 :: t) (by simp)).set0 t (by simp)).below' m6 hbw);have B6:=hid hb6;have N6:=hid (O6.out.trans' m6 hbw (Nat.le_refl _));clear hb6 hbel6 m6)
          go_roundw
          case rel=>exact ⟨o ++ [34],t,K2.out,R6.out,B6.out,N6.out,by simp at hol ⊢;omega⟩
          case measure=>rw [rtLen_of R6.out,rtLen_of RT.out];simp;try omega
        · clear g34 g92
          have J2:Inv bad R d1 (addO (o ++ [92]) (quoteL t)):=II.out.to fun _=>by rw [hq];exact addO_map o 92 _
          have K2:=hid J2
          clear J2
          go_wp2_with (at_builtin;refine wpList_buf w.heap.size _ rfl _ _ rfl _ o [92] rfl ((HB.out.stays2 ((Only.set wr b 0 (.string (str (92 :: t)))).trans (Only.set _ b 0 (.string (str t)))) hbw).alloc _) _ 1 1 rfl rfl (one_srcN _ _ (by simp) 92 _ rfl) (by simp at hol ⊢;omega) ?_;intro v6 w6 hb6 hbel6;have O6:=hid (OO.out.trans ((Only.set wr b 0 (.string (str (92 :: t)))).trans (Only.set _ b 0 (.string (str t)))));have m6:=((Below.refl w.heap.size ((wr.setCell ⟨b,0,none⟩ (.string (str (92 :: t)))).setCell ⟨b,0,none⟩ (.string (str t)))).alloc O6.out.size _).trans hbel6;have R6:=hid (((RT.out.set0 (92 :: t) (by simp)).set0 t (by simp)).below' m6 hbw);have B6:=hid hb6;have N6:=hid (O6.out.trans' m6 hbw (Nat.le_refl _));clear hb6 hbel6 m6)
          go_roundw
          case rel=>exact ⟨o ++ [92],t,K2.out,R6.out,B6.out,N6.out,by simp at hol ⊢;omega⟩
          case measure=>rw [rtLen_of R6.out,rtLen_of RT.out];simp;try omega
      · have hq:=quote_bs d t
        rw [if_neg hd] at hq
        rw [decide_eq_false (fun h=>hd (.inl h))] at g34
        rw [decide_eq_false (fun h=>hd (.inr h))] at g92
        clear hd
        have J2:Inv bad R d1 none:=II.out.to fun _=>by rw [hq];rfl
        have K2:=hid J2
        clear J2
        go_wp2_with fail
        go_ret
        exact ⟨_,[],(d :: t),true,rfl,rfl,(RT.out.set0 (d :: t) (by simp)).set1 true,by first | (simp;done) | (simp at hol ⊢;omega),((OO.out.trans (Only.set _ _ _ _)).trans (Only.set _ _ _ _)),Inv.out (Inv.fault K2.out)⟩
   · have hq:=quote_line c t (h.imp id And.right)
     have h34':((c.toNat:Int) != 34) = true:=(congrArg Bool.not (byte_eq2 34 c)).trans (by rw [decide_eq_false h34];rfl)
     have h92':((c.toNat:Int) == 92) = false:=(byte_eq2 92 c).trans (decide_eq_false h92)
     rcases h with h | ⟨h,h'⟩
     · have h13':((c.toNat:Int) == 13) = true:=(byte_eq2 13 c).trans (decide_eq_true h)
       clear h h34 h92
       have J2:Inv bad R d1 none:=II.out.to fun _=>by rw [hq];rfl
       have K2:=hid J2
       clear J2
       go_wp2_with fail
       go_ret
       exact ⟨_,[],t,true,rfl,rfl,(RT.out.set0 t (by simp)).set1 true,by first | (simp;done) | (simp at hol ⊢;omega),((OO.out.trans (Only.set _ _ _ _)).trans (Only.set _ _ _ _)),Inv.out (Inv.fault K2.out)⟩
     · have h13':((c.toNat:Int) == 13) = false:=(byte_eq2 13 c).trans (decide_eq_false h)
       have h10':((c.toNat:Int) == 10) = true:=(byte_eq2 10 c).trans (decide_eq_true h')
       clear h h' h34 h92
       have J2:Inv bad R d1 none:=II.out.to fun _=>by rw [hq];rfl
       have K2:=hid J2
       clear J2
       go_wp2_with fail
       go_ret
       exact ⟨_,[],t,true,rfl,rfl,(RT.out.set0 t (by simp)).set1 true,by first | (simp;done) | (simp at hol ⊢;omega),((OO.out.trans (Only.set _ _ _ _)).trans (Only.set _ _ _ _)),Inv.out (Inv.fault K2.out)⟩
   · have hq:=quote_on c t h34 h92 h13 h10
     have h34':((c.toNat:Int) != 34) = true:=(congrArg Bool.not (byte_eq2 34 c)).trans (by rw [decide_eq_false h34];rfl)
     have h92':((c.toNat:Int) == 92) = false:=(byte_eq2 92 c).trans (decide_eq_false h92)
     have h13':((c.toNat:Int) == 13) = false:=(byte_eq2 13 c).trans (decide_eq_false h13)
     have h10':((c.toNat:Int) == 10) = false:=(byte_eq2 10 c).trans (decide_eq_false h10)
     clear h34 h92 h13 h10
     have J2:Inv bad R d1 (addO (o ++ [c]) (quoteL t)):=II.out.to fun _=>by rw [hq];exact addO_map o c _
     have K2:=hid J2
     clear J2
     go_wp2_with (at_builtin;refine wpList_buf w.heap.size _ rfl _ _ rfl _ o [c] rfl ((HB.out.stays2 (Only.set wr b 0 (.string (str t))) hbw).alloc _) _ 1 1 rfl rfl (one_srcN _ _ (by simp) c _ rfl) (by simp at hol ⊢;omega) ?_;intro v6 w6 hb6 hbel6;have O6:=hid (OO.out.trans (Only.set wr b 0 (.string (str t))));have m6:=((Below.refl w.heap.size (wr.setCell ⟨b,0,none⟩ (.string (str t)))).alloc O6.out.size _).trans hbel6;have R6:=hid ((RT.out.set0 t (by simp)).below' m6 hbw);have B6:=hid hb6;have N6:=hid (O6.out.trans' m6 hbw (Nat.le_refl _));clear hb6 hbel6 m6)
     go_roundw
     case rel=>exact ⟨o ++ [c],t,K2.out,R6.out,B6.out,N6.out,by simp at hol ⊢;omega⟩
     case measure=>rw [rtLen_of R6.out,rtLen_of RT.out];simp;try omega
end Go.Proofs.YtfdmdmahddjjmaaGreatDoor
