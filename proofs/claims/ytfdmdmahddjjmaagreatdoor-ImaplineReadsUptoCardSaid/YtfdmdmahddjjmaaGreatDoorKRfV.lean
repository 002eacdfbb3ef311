/-
  The reference's Parse.
-/
import Derived.Test.YtfdmdmahddjjmaaGreatDoorPkRr
import Derived.Test.YtfdmdmahddjjmaaGreatDoorKRfT
import Derived.Test.YtfdmdmahddjjmaaGreatDoorKRfU
import Derived.Test.YtfdmdmahddjjmaaGreatDoorKRfJ
import Derived.Test.YtfdmdmahddjjmaaGreatDoorKImX
set_option linter.unusedVariables false
set_option linter.unusedSimpArgs false
set_option maxRecDepth 100000
namespace Go.Proofs.YtfdmdmahddjjmaaGreatDoor
open Go.RowKit Own Im
attribute [local go_sem] str_toList str_size
def uidL:List Bt:=[[70,69,84,67,72],[83,84,79,82,69],[67,79,80,89],[83,69,65,82,67,72]]
theorem uid_law {h:Bt} {k:Nat} (hk:formK h = some k):uidF k = uidL.contains h:=by
 have hall:∀ p ∈ Im.forms,uidF p.2 = uidL.contains p.1:=by decide
 unfold formK at hk
 obtain ⟨p,hp,rfl⟩:=Option.map_eq_some_iff.1 hk
 have h2:p.1 = h:=by simpa using List.find?_some hp
 rw [← h2]
 exact hall p (List.mem_of_find?_eq_some hp)
theorem rest_every {wd:Bt} {k:Nat} (h:formK wd = some k):RestC wd (readF k):=by
 unfold formK at h
 obtain ⟨p,hp,rfl⟩:=Option.map_eq_some_iff.1 h
 have h2:p.1 = wd:=by simpa using List.find?_some hp
 subst h2
 have hm:=List.mem_of_find?_eq_some hp
 clear hp h
 simp only [Im.forms,List.mem_cons,List.not_mem_nil,or_false] at hm
 rcases hm with rfl | rfl | rfl | rfl | rfl | rfl | rfl | rfl | rfl | rfl | rfl | rfl | rfl | rfl | rfl | rfl | rfl | rfl | rfl | rfl | rfl | rfl
 · exact rest_no0
 · exact rest_no1
 · exact rest_no2
 · exact rest_no3
 · exact rest_no4
 · exact rest_no5
 · exact rest_one0
 · exact rest_one1
 · exact rest_one2
 · exact rest_one3
 · exact rest_one4
 · exact rest_one5
 · exact rest_list
 · exact rest_lsub
 · exact rest_login
 · exact rest_rename
 · exact rest_status
 · exact rest_append
 · exact rest_store
 · exact rest_copy
 · exact rest_fetch
 · exact rest_search
theorem step_got {α:Type} {a0 a:α} {t0 t:Bt} {d:Bool} (h:Step false (some (a0,t0)) a t d):d = false∧a = a0∧t = t0:=by
 cases d with
 | true =>
  have:=h.2.1 rfl rfl
  cases this
 | false =>
  have:=h.2.2 rfl rfl
  injection this with h1
  injection h1 with h2 h3
  exact ⟨rfl,h2.symm,h3.symm⟩
theorem takes_pre {c:UInt8} {s t:Bt} {d:Bool} (h:takes [c] s = (d,t)):Lib.hasPrefix s [c] = d:=by
 rw [takes_one] at h
 exact congrArg Prod.fst h
theorem takes_sign {c:UInt8} {s t:Bt} (h:takes [c] s = (true,t)):signR c s = some ((),t):=by
 have h1:=takes_pre h
 rw [takes_one,h1] at h
 have h2:=congrArg Prod.snd h
 simp only [if_true] at h2
 unfold signR sign
 rw [if_pos h1,← h2]
 rfl
theorem rres_at {W:World} {X:Nat} {x:Cm} {v:CmV} {n:Int} (hx:CmAt W X x v) (tmps:Array Value) (h2:tmps[2]? = some (.pointer (some ⟨X,0,none⟩))) (h3:tmps[3]? = some (.int .i64 n)) :
  (results Tryz.f16 tmps).run Tryz.prog W = .ok (.tuple #[.agg (cmC x v),.int .i64 n]) W:=by
 simp [results,Tryz.results16,go_sem,h2,h3,hx.c0,hx.c1,hx.c2,hx.c3,hx.c4,hx.c5,hx.c6,hx.c7,hx.c8,hx.c9,hx.c10,hx.c11,hx.c12,hx.c13]
set_option maxHeartbeats 16000000 in
theorem rparse_any (s:Bt) (w:World) (hG:Gd w) (hs:s.length ≤ 100000000) :
  Calls Tryz.prog 16 #[.string (str s)] w fun e w'=>ParsePost w (parseS s) e w':=by
 have hz:=str_size s
 have htag:=fun W=>rtag_any s W (by omega)
 by_cases ht:tagS s = []
 · have hP:parseS s = ({},160):=by unfold parseS;rw [if_pos ht]
   rw [hP]
   rw [ht] at htag
   go_enter Tryz.func16,Tryz.ntmps16
   go_upto_region 2 with (go_at_call 19;refine (htag _).mono ?_;rintro e w1 ⟨rfl,rfl⟩)
   obtain ⟨W,hW⟩:∃ W,W = (w.alloc (.cells #[.string ⟨#[]⟩,.string ⟨#[]⟩,.bool false,.slice none 0 0,.string ⟨#[]⟩,.string ⟨#[]⟩,.slice none 0 0,.int .i64 0,.int .i64 0,.bool false,.slice none 0 0,.slice none 0 0,.int .i64 0,.slice none 0 0] 30)).alloc (.cells #[.string (str []),.string ⟨#[]⟩,.bool false,.slice none 0 0,.string ⟨#[]⟩,.string ⟨#[]⟩,.slice none 0 0,.int .i64 0,.int .i64 0,.bool false,.slice none 0 0,.slice none 0 0,.int .i64 0,.slice none 0 0] 30):=⟨_,rfl⟩
   have hbe:Below w.heap.size w W:=by rw [hW];exact ((Below.refl _ _).alloc (Nat.le_refl _) _).alloc (by simp) _
   have kx:CmAt W w.heap.size {} v0:=by
    rw [hW]
    exact (((Below.refl (w.alloc _).heap.size (w.alloc _)).alloc (Nat.le_refl _) _).block w.heap.size (by simp)).trans (heap_alloc_new w _)
   have kc:CmAt W (w.heap.size + 1) {} v0:=by
    rw [hW]
    exact two_new w _ _
   rw [← hW]
   clear hW
   have y0:=kx.c0
   have y1:=kx.c1
   have y2:=kx.c2
   have y3:=kx.c3
   have y4:=kx.c4
   have y5:=kx.c5
   have y6:=kx.c6
   have y7:=kx.c7
   have y8:=kx.c8
   have y9:=kx.c9
   have y10:=kx.c10
   have y11:=kx.c11
   have y12:=kx.c12
   have y13:=kx.c13
   have yf:=kx.free
   have x0:=kc.c0
   have x1:=kc.c1
   have x2:=kc.c2
   have x3:=kc.c3
   have x4:=kc.c4
   have x5:=kc.c5
   have x6:=kc.c6
   have x7:=kc.c7
   have x8:=kc.c8
   have x9:=kc.c9
   have x10:=kc.c10
   have x11:=kc.c11
   have x12:=kc.c12
   have x13:=kc.c13
   go_wp2_with fail
   exact bodyPost_ret (v:=.tuple #[.agg (cmC {} v0),.int .i64 160]) (rres_at (x:={}) (v:=v0) (fill_at kx _ _ _ _ _ _ _ _ _ _ _ _ _ _) _ (by rfl) (by rfl)) rfl ⟨v0,rfl,CmRows.none (by have:=hbe.size;simpa [World.setCell] using this) rfl rfl rfl rfl rfl,fill_below hbe (Nat.le_refl _) _ _ _ _ _ _ _ _ _ _ _ _ _ _⟩
 · have hlen:=tagS_len ht
   rw [parse_at ht]
   obtain ⟨tag,htg⟩:∃ tag,tag = tagS s:=⟨_,rfl⟩
   rw [← htg] at ht htag hlen ⊢
   clear htg
   obtain ⟨s0,hs0⟩:∃ s0,s0 = s.drop (tag.length + 1):=⟨_,rfl⟩
   have hext:(str s).extract (tag.length + 1) s.length = str s0:=by rw [hs0];exact str_from s _ _ rfl
   have hl0:s0.length ≤ 100000000:=by rw [hs0];simp;omega
   rw [← hs0]
   clear hs0
   obtain ⟨x1,s1,s2,d,hw,hcase,hhd⟩:=head_split s0
   obtain ⟨h1,h2,hhd2,hd1,hd2⟩:∃ h1 h2,headS s0 = (h1,d,h2)∧(d = true→Im.word s2 = (h1,h2))∧(d = false→h1 = x1∧h2 = s2):=by
    cases d with
    | true=>exact ⟨_,_,hhd,fun _=>rfl,fun h=>by cases h⟩
    | false=>exact ⟨_,_,hhd,fun h=>(by cases h),fun _=>⟨rfl,rfl⟩⟩
   rw [hhd2]
   dsimp only
   obtain ⟨C,N,hP⟩:∃ C N,tailS tag h1 d h2 = (C,N):=⟨_,_,rfl⟩
   rw [hP]
   have HP:=hid hP
   have hzt:=str_size tag
   have hne1:(tag == []) = false:=by rw [beq_eq_false_iff_ne];exact ht
   have hwt:IntKind.i64.wrap ((tag.length:Int) + 1) = (tag.length:Int) + 1:=by rw [IntKind.wrap_i64];omega
   have hlt:(tag.length:Int) + 1 ≤ (s.length:Int):=by omega
   have HL:=hid hlen
   have HW:=hid hw
   clear hP hhd hhd2 hw hlen
   go_enter Tryz.func16,Tryz.ntmps16
   go_upto_region 5 with (go_at_call 19;refine (htag _).mono ?_;rintro e w1 ⟨rfl,rfl⟩)
   obtain ⟨W1,hW1⟩:∃ W,W = ((w.alloc (.cells #[.string ⟨#[]⟩,.string ⟨#[]⟩,.bool false,.slice none 0 0,.string ⟨#[]⟩,.string ⟨#[]⟩,.slice none 0 0,.int .i64 0,.int .i64 0,.bool false,.slice none 0 0,.slice none 0 0,.int .i64 0,.slice none 0 0] 30)).alloc (.cells #[.string (str tag),.string ⟨#[]⟩,.bool false,.slice none 0 0,.string ⟨#[]⟩,.string ⟨#[]⟩,.slice none 0 0,.int .i64 0,.int .i64 0,.bool false,.slice none 0 0,.slice none 0 0,.int .i64 0,.slice none 0 0] 30)).alloc (.cells #[.string (str s0),.bool false] 70):=⟨_,rfl⟩
   rw [← hW1]
   have a1:Below w.heap.size w W1:=by rw [hW1];exact (((Below.refl _ _).alloc (Nat.le_refl _) _).alloc (by simp) _).alloc (by simp;omega) _
   have kx:CmAt W1 w.heap.size {} v0:=by
    rw [hW1]
    exact ((((Below.refl (w.alloc _).heap.size (w.alloc _)).alloc (Nat.le_refl _) _).alloc (by simp) _).block w.heap.size (by simp)).trans (heap_alloc_new w _)
   have kc:CmAt W1 (w.heap.size + 1) { tag:=tag } v0:=by
    rw [hW1]
    exact (((Below.refl ((w.alloc _).alloc _).heap.size ((w.alloc _).alloc _)).alloc (Nat.le_refl _) _).block (w.heap.size + 1) (by simp)).trans (two_new w _ _)
   have kb:W1.heap[w.heap.size + 1 + 1]? = some (.cells #[.string (str s0),.bool false] 70 (0,0)):=by
    rw [hW1]
    have h:=heap_alloc_new ((w.alloc (.cells #[.string ⟨#[]⟩,.string ⟨#[]⟩,.bool false,.slice none 0 0,.string ⟨#[]⟩,.string ⟨#[]⟩,.slice none 0 0,.int .i64 0,.int .i64 0,.bool false,.slice none 0 0,.slice none 0 0,.int .i64 0,.slice none 0 0] 30)).alloc (.cells #[.string (str tag),.string ⟨#[]⟩,.bool false,.slice none 0 0,.string ⟨#[]⟩,.string ⟨#[]⟩,.slice none 0 0,.int .i64 0,.int .i64 0,.bool false,.slice none 0 0,.slice none 0 0,.int .i64 0,.slice none 0 0] 30)) (.cells #[.string (str s0),.bool false] 70)
    rwa [show ((w.alloc (.cells #[.string ⟨#[]⟩,.string ⟨#[]⟩,.bool false,.slice none 0 0,.string ⟨#[]⟩,.string ⟨#[]⟩,.slice none 0 0,.int .i64 0,.int .i64 0,.bool false,.slice none 0 0,.slice none 0 0,.int .i64 0,.slice none 0 0] 30)).alloc (.cells #[.string (str tag),.string ⟨#[]⟩,.bool false,.slice none 0 0,.string ⟨#[]⟩,.string ⟨#[]⟩,.slice none 0 0,.int .i64 0,.int .i64 0,.bool false,.slice none 0 0,.slice none 0 0,.int .i64 0,.slice none 0 0] 30)).heap.size = w.heap.size + 1 + 1 by simp] at h
   clear hW1
   obtain ⟨c,hc⟩:∃ c,c = w.heap.size + 1:=⟨_,rfl⟩
   obtain ⟨b,hb⟩:∃ b,b = c + 1:=⟨_,rfl⟩
   rw [← hc] at kc kb ⊢
   rw [← hb] at kb ⊢
   have hXc:w.heap.size < c:=by omega
   have hcb:c < b:=by omega
   have hne:c ≠ b:=by omega
   have rt:RtT W1 b s0 false:=⟨kb,hl0,⟨w,hG,by omega,a1⟩⟩
   have KX:=hid kx
   have K1:=hid kc
   have R1:=hid rt
   have A1:=hid a1
   have G1:Hid (GoodI c W1):=hid ⟨w,hG,by omega,a1⟩
   have hwd:=fun W hW=>rword_any b s0 false W hW
   rw [HW.out] at hwd
   dsimp only at hwd
   clear kx kb kc a1 rt hc hb
   go_upto_region 6 with (go_at_call 32;refine (hwd _ R1.out).mono ?_;rintro e w2 ⟨rfl,r2,o2⟩;have k2:=K1.out.only o2 hne;have u1:=k2.c1;have f1:=k2.free 1;have K2:=hid k2;have R2:=hid r2;have T2:=hid (o2.twoUp hcb);clear k2 r2 o2)
   have k3:=K2.out.set1 x1
   have t3:=T2.out.trans (Two.near w2 hcb 1 (.string (str x1)))
   have r3:=R2.out.near hcb (G1.out.two T2.out) (j:=1) (.string (str x1))
   obtain ⟨W3,hW3⟩:∃ W,W = w2.setCell ⟨c,1,none⟩ (.string (str x1)):=⟨_,rfl⟩
   rw [← hW3] at k3 t3 r3 ⊢
   have c1:=k3.c1
   have K3:=hid k3
   have T3:=hid t3
   have R3:=hid r3
   clear hW3 u1 f1 k3 t3 r3
   go_cut [30] from 24 to 29 (fun v30 wx=>v30 = .bool d∧wx = W3)
   case first =>
    rcases hcase with ⟨e1,rfl,rfl⟩ | ⟨e1,htk⟩
    · go_wp2_with fail
      go_meet
      exact ⟨rfl,rfl⟩
    · have hpre:=takes_pre htk
      have hse:=fun W hW=>rsees_any 32 32 rfl b s1 false W hW
      rw [hpre] at hse
      clear hpre htk
      go_wp2_with (go_at_call 33;refine (hse _ R3.out).mono ?_;rintro e w4 ⟨rfl,he⟩;obtain rfl:=he.symm)
      go_meet
      exact ⟨rfl,rfl⟩
   case rest =>
    obtain ⟨rfl,hwx⟩:=hcut
    rw [hwx]
    clear hwx
    go_upto_if 30 with fail
    go_cut [] from 31 to 57 (fun wx=>CmAt wx c { tag:=tag,word:=h1,uid:=d } v0∧RtT wx b h2 false∧Two c b W1 wx∧(d = true→uidL.contains h1 = true))
    case first =>
     cases d with
     | false =>
      have hs12:s2 = s1:=by
       rcases hcase with ⟨-,-,h⟩ | ⟨-,h⟩
       · exact h
       · exact takes_no h
      have e1:=(hd2 rfl).1
      have e2:=(hd2 rfl).2
      have E:=hid (And.intro e1 (e2.trans hs12))
      clear e1 e2 hs12
      go_wp2_with fail
      go_meet
      refine ⟨?_,?_,T3.out,fun h=>by cases h⟩
      · rw [E.out.1];exact K3.out
      · rw [E.out.2];exact R3.out
     | true =>
      have htk:takes [32] s1 = (true,s2):=by
       rcases hcase with ⟨-,h,-⟩ | ⟨-,h⟩
       · cases h
       · exact h
      have hts:=takes_sign htk
      have hwd2:=fun W hW=>rword_any b s2 false W hW
      rw [hd1 rfl] at hwd2
      dsimp only at hwd2
      have HT:=hid hts
      clear hts htk hcase hd1 hd2
      go_upto_region 10 with (first
       | (go_at_call 34;refine (rblank_any b s1 false _ R3.out).mono ?_;rintro e w4 ⟨v4,a4,s4,d4,rfl,rfl,r4,l4,o4,t4⟩;rw [HT.out] at t4;obtain ⟨e4,-,e5⟩:=step_got t4;rw [e4,e5] at r4;have k4:=K3.out.only o4 hne;have u2:=k4.c2;have f2:=k4.free 2;have K4:=hid (k4.set2 true);have q4:=T3.out.trans (o4.twoUp hcb);have R4:=hid (r4.near hcb (G1.out.two q4) (j:=2) (.bool true));have T4:=hid (q4.trans (Two.near w4 hcb 2 (.bool true)));clear r4 l4 o4 t4 k4 q4 e4 e5)
       | (go_at_call 32;refine (hwd2 _ R4.out).mono ?_;rintro e w5 ⟨rfl,r5,o5⟩;have k5:=K4.out.only o5 hne;have u1:=k5.c1;have f1:=k5.free 1;have K5:=hid k5;have R5:=hid r5;have T5:=hid (T4.out.trans (o5.twoUp hcb));clear k5 r5 o5))
      have k6:=K5.out.set1 h1
      have t6:=T5.out.trans (Two.near w5 hcb 1 (.string (str h1)))
      have r6:=R5.out.near hcb (G1.out.two T5.out) (j:=1) (.string (str h1))
      obtain ⟨W6,hW6⟩:∃ W,W = w5.setCell ⟨c,1,none⟩ (.string (str h1)):=⟨_,rfl⟩
      rw [← hW6] at k6 t6 r6 ⊢
      clear c1 u1 f1 u2 f2
      have c0:=k6.c0
      have c1:=k6.c1
      have kx:CmAt W6 w.heap.size {} v0:=(t6.low.block w.heap.size (by omega)).trans KX.out
      have hbe:=A1.out.trans (t6.low.mono (by omega))
      have y0:=kx.c0
      have y1:=kx.c1
      have y2:=kx.c2
      have y3:=kx.c3
      have y4:=kx.c4
      have y5:=kx.c5
      have y6:=kx.c6
      have y7:=kx.c7
      have y8:=kx.c8
      have y9:=kx.c9
      have y10:=kx.c10
      have y11:=kx.c11
      have y12:=kx.c12
      have y13:=kx.c13
      have yf:=kx.free
      have K6:=hid k6
      have T6:=hid t6
      have R6:=hid r6
      have HX:=hid kx
      clear hW6 k6 t6 r6 kx
      have hq:((h1 == [70,69,84,67,72]) = true∧uidL.contains h1 = true)∨((h1 == [70,69,84,67,72]) = false∧(h1 == [83,84,79,82,69]) = true∧uidL.contains h1 = true)∨((h1 == [70,69,84,67,72]) = false∧(h1 == [83,84,79,82,69]) = false∧(h1 == [67,79,80,89]) = true∧uidL.contains h1 = true)∨((h1 == [70,69,84,67,72]) = false∧(h1 == [83,84,79,82,69]) = false∧(h1 == [67,79,80,89]) = false∧(h1 == [83,69,65,82,67,72]) = true∧uidL.contains h1 = true)∨((h1 == [70,69,84,67,72]) = false∧(h1 == [83,84,79,82,69]) = false∧(h1 == [67,79,80,89]) = false∧(h1 == [83,69,65,82,67,72]) = false∧uidL.contains h1 = false):=by
       have hcon:uidL.contains h1 = ((h1 == [70,69,84,67,72]) || ((h1 == [83,84,79,82,69]) || ((h1 == [67,79,80,89]) || (h1 == [83,69,65,82,67,72])))):=by simp only [uidL,List.contains_cons,List.contains_nil,Bool.or_false]
       rw [hcon]
       cases (h1 == [70,69,84,67,72]) <;> cases (h1 == [83,84,79,82,69]) <;> cases (h1 == [67,79,80,89]) <;> cases (h1 == [83,69,65,82,67,72]) <;> simp
      rcases hq with ⟨e0,hcn⟩ | ⟨e0,e1,hcn⟩ | ⟨e0,e1,e2,hcn⟩ | ⟨e0,e1,e2,e3,hcn⟩ | ⟨e0,e1,e2,e3,hcn⟩
      rotate_left 4
      · have hC:tailS tag h1 true h2 = ({ tag:=tag },161):=by
          cases hf:formK h1 with
          | none=>exact tail_none hf
          | some k=>exact tail_uid hf ⟨rfl,by rw [uid_law hf];exact hcn⟩
        obtain ⟨rfl,rfl⟩:=Prod.mk.inj (HP.out.symm.trans hC)
        clear hcn hC
        go_wp2_with fail
        have kx:=HX.out
        exact bodyPost_ret (v:=.tuple #[.agg (cmC { tag:=tag } v0),.int .i64 161]) (rres_at (x:={ tag:=tag }) (v:=v0) (fill_at kx _ _ _ _ _ _ _ _ _ _ _ _ _ _) _ (by rfl) (by rfl)) rfl ⟨v0,rfl,CmRows.none (by have:=hbe.size;simpa [World.setCell] using this) rfl rfl rfl rfl rfl,fill_below hbe (Nat.le_refl _) _ _ _ _ _ _ _ _ _ _ _ _ _ _⟩
      all_goals
       have HCN:=hid hcn
       clear hcn
       go_wp2_with fail
       go_meet
       exact ⟨K6.out,R6.out,T6.out,fun _=>HCN.out⟩
    case rest =>
     obtain ⟨k7,r7,t7,hu⟩:=hcut
     clear c1
     have c1:=k7.c1
     have K7:=hid k7
     have R7:=hid r7
     have T7:=hid t7
     have HU:=hid hu
     have hkn:=fun W=>rknown_any h1 W
     clear k7 r7 t7 hu hcase hd1 hd2
     cases hf:formK h1 with
     | none =>
      rw [hf] at hkn
      obtain ⟨rfl,rfl⟩:=Prod.mk.inj (HP.out.symm.trans (tail_none (tag:=tag) (h2:=h2) (d:=d) hf))
      clear hf
      go_upto_region 13 with (go_at_call 35;refine (hkn _).mono ?_;rintro e w8 ⟨rfl,b8⟩;have k8:=K7.out.below b8;have c0:=k8.c0;have K8:=hid k8;have R8:=hid (R7.out.below b8);have T8:=hid (T7.out.trans (Two.of b8 (Nat.le_of_lt K7.out.lt)));clear k8 b8)
      have kx:CmAt w8 w.heap.size {} v0:=(T8.out.low.block w.heap.size (by omega)).trans KX.out
      have hbe:=A1.out.trans (T8.out.low.mono (by omega))
      have y0:=kx.c0
      have y1:=kx.c1
      have y2:=kx.c2
      have y3:=kx.c3
      have y4:=kx.c4
      have y5:=kx.c5
      have y6:=kx.c6
      have y7:=kx.c7
      have y8:=kx.c8
      have y9:=kx.c9
      have y10:=kx.c10
      have y11:=kx.c11
      have y12:=kx.c12
      have y13:=kx.c13
      have yf:=kx.free
      go_wp2_with fail
      exact bodyPost_ret (v:=.tuple #[.agg (cmC { tag:=tag } v0),.int .i64 161]) (rres_at (x:={ tag:=tag }) (v:=v0) (fill_at kx _ _ _ _ _ _ _ _ _ _ _ _ _ _) _ (by rfl) (by rfl)) rfl ⟨v0,rfl,CmRows.none (by have:=hbe.size;simpa [World.setCell] using this) rfl rfl rfl rfl rfl,fill_below hbe (Nat.le_refl _) _ _ _ _ _ _ _ _ _ _ _ _ _ _⟩
     | some k =>
      rw [hf] at hkn
      have HF:=hid hf
      have hnu:¬ (d = true∧uidF k = false):=fun ⟨e1,e2⟩=>by
       have h:=HU.out e1
       rw [← uid_law hf,e2] at h
       cases h
      have HNU:=hid hnu
      clear hf hnu
      go_upto_region 15 with (first
       | (go_at_call 35;refine (hkn _).mono ?_;rintro e w8 ⟨rfl,b8⟩;have k8:=K7.out.below b8;have c0:=k8.c0;have K8:=hid k8;have R8:=hid (R7.out.below b8);have T8:=hid (T7.out.trans (Two.of b8 (Nat.le_of_lt K7.out.lt)));clear k8 b8)
       | (go_at_call 36;refine (rest_every HF.out b c (b + 1) h2 false { tag:=tag,word:=h1,uid:=d } v0 _ R8.out (G1.out.two T8.out) K8.out (CmRows.none R8.out.lt rfl rfl rfl rfl rfl) hcb (Nat.lt_succ_self _) R8.out.lt rfl rfl rfl ⟨rfl,rfl⟩ ⟨rfl,rfl⟩).mono ?_;rintro e w9 ⟨x,t,bd,v,rfl,t9,r9,l9,k9,s9,st9,g9⟩;have z0:=r9.c0;have z1:=r9.c1;have T9:=hid (T8.out.trans t9);have K9:=hid k9;have S9:=hid s9;have P9:=hid st9;have Q9:=hid g9;clear r9 l9 k9 s9 st9 g9 t9))
      have kx:CmAt w9 w.heap.size {} v0:=(T9.out.low.block w.heap.size (by omega)).trans KX.out
      have hbe:=A1.out.trans (T9.out.low.mono (by omega))
      have y0:=kx.c0
      have y1:=kx.c1
      have y2:=kx.c2
      have y3:=kx.c3
      have y4:=kx.c4
      have y5:=kx.c5
      have y6:=kx.c6
      have y7:=kx.c7
      have y8:=kx.c8
      have y9:=kx.c9
      have y10:=kx.c10
      have y11:=kx.c11
      have y12:=kx.c12
      have y13:=kx.c13
      have yf:=kx.free
      obtain ⟨q1,q2,q3,q4,q5⟩:=v
      obtain ⟨A1,a1,e1,-⟩:=(show Sq.RBuf (b + 1) w9 q1 x.set from S9.out.set).full
      obtain ⟨A2,a2,e2,-⟩:=(show SBuf (b + 1) w9 q2 x.names from S9.out.names).full
      obtain ⟨i3,g3,-⟩:=(show vItems (b + 1) x.items q3 w9 from S9.out.items)
      obtain ⟨i4,g4,-⟩:=(show vKeys (b + 1) x.keys q4 w9 from S9.out.keys)
      obtain ⟨A3,a3,e3,-⟩:=g3.full
      obtain ⟨A4,a4,e4,-⟩:=g4.full
      obtain ⟨A5,a5,e5,-⟩:=(show LBuf (b + 1) w9 q5 x.lit from S9.out.lit).full
      subst e1 e2 e3 e4 e5
      have k9:=K9.out
      have x0:=k9.c0
      have x1:=k9.c1
      have x2:=k9.c2
      have x3:=k9.c3
      have x4:=k9.c4
      have x5:=k9.c5
      have x6:=k9.c6
      have x7:=k9.c7
      have x8:=k9.c8
      have x9:=k9.c9
      have x10:=k9.c10
      have x11:=k9.c11
      have x12:=k9.c12
      have x13:=k9.c13
      dsimp only at x3 x6 x10 x11 x13
      clear g3 g4
      have HX:=hid kx
      clear c1 k9 kx
      cases bd with
      | true =>
       obtain ⟨rfl,rfl⟩:=Prod.mk.inj (HP.out.symm.trans (tail_thrown HF.out HNU.out (P9.out.2.1 rfl rfl)))
       rw [Q9.out] at x0
       go_wp2_with fail
       have kx:=HX.out
       exact bodyPost_ret (v:=.tuple #[.agg (cmC { tag:=tag } v0),.int .i64 160]) (rres_at (x:={ tag:=tag }) (v:=v0) (fill_at kx _ _ _ _ _ _ _ _ _ _ _ _ _ _) _ (by rfl) (by rfl)) rfl ⟨v0,rfl,CmRows.none (by have:=hbe.size;simpa [World.setCell] using this) rfl rfl rfl rfl rfl,fill_below hbe (Nat.le_refl _) _ _ _ _ _ _ _ _ _ _ _ _ _ _⟩
      | false =>
       cases t with
       | cons a t =>
        obtain ⟨rfl,rfl⟩:=Prod.mk.inj (HP.out.symm.trans (tail_more HF.out HNU.out (P9.out.2.2 rfl rfl) (by simp)))
        rw [Q9.out] at x0
        have hn:((a :: t) != ([]:Bt)) = true:=by simp
        go_wp2_with fail
        have kx:=HX.out
        exact bodyPost_ret (v:=.tuple #[.agg (cmC { tag:=tag } v0),.int .i64 160]) (rres_at (x:={ tag:=tag }) (v:=v0) (fill_at kx _ _ _ _ _ _ _ _ _ _ _ _ _ _) _ (by rfl) (by rfl)) rfl ⟨v0,rfl,CmRows.none (by have:=hbe.size;simpa [World.setCell] using this) rfl rfl rfl rfl rfl,fill_below hbe (Nat.le_refl _) _ _ _ _ _ _ _ _ _ _ _ _ _ _⟩
       | nil =>
        obtain ⟨rfl,rfl⟩:=Prod.mk.inj (HP.out.symm.trans (tail_ok HF.out HNU.out (P9.out.2.2 rfl rfl)))
        go_wp2_with fail
        have kx:=HX.out
        exact bodyPost_ret (v:=.tuple #[.agg (cmC C ⟨.slice A1 C.set.length a1,.slice A2 C.names.length a2,.slice A3 C.items.length a3,.slice A4 C.keys.length a4,.slice A5 C.lit.length a5⟩),.int .i64 0]) (rres_at (x:=C) (v:=⟨.slice A1 C.set.length a1,.slice A2 C.names.length a2,.slice A3 C.items.length a3,.slice A4 C.keys.length a4,.slice A5 C.lit.length a5⟩) (fill_at kx _ _ _ _ _ _ _ _ _ _ _ _ _ _) _ (by rfl) (by rfl)) rfl ⟨⟨.slice A1 C.set.length a1,.slice A2 C.names.length a2,.slice A3 C.items.length a3,.slice A4 C.keys.length a4,.slice A5 C.lit.length a5⟩,rfl,(S9.out.stays ((fill_stays _ _ _ _ _ _ _ _ _ _ _ _ _ _).mono (by omega))).mono (by omega),fill_below hbe (Nat.le_refl _) _ _ _ _ _ _ _ _ _ _ _ _ _ _⟩
end Go.Proofs.YtfdmdmahddjjmaaGreatDoor
