/-
  Joined texts: ImAll RfX.
-/
import Derived.Test.YtfdmdmahddjjmaaGreatDoorKImX
import Derived.Test.YtfdmdmahddjjmaaGreatDoorKImSt
import Derived.Test.YtfdmdmahddjjmaaGreatDoorPkIm3
import Derived.Test.YtfdmdmahddjjmaaGreatDoorKImSe
import Derived.Test.YtfdmdmahddjjmaaGreatDoorPkOwn
set_option linter.unusedVariables false
set_option linter.unusedSimpArgs false
set_option maxRecDepth 100000
namespace Go.Proofs.YtfdmdmahddjjmaaGreatDoor
open Go.RowKit Own Im
attribute [local go_sem] str_toList str_size
theorem forms_every:∀ k,k ≤ 10→FormC (fidOf k) (readF k)
 | 0,_=>nothing_any
 | 1,_=>box_any
 | 2,_=>listed_any
 | 3,_=>login_any
 | 4,_=>rename_any
 | 5,_=>status_any
 | 6,_=>append_any
 | 7,_=>store_any
 | 8,_=>copy_any
 | 9,_=>fetch_any
 | 10,_=>search_any
 | k + 11,h=>absurd h (by omega)
theorem parse_every (s:Bt) (w:World) (hG:Gd w) (hs:s.length ≤ 100000000) :
  Calls Tryz.prog 10 #[.string (str s)] w fun e w'=>ParsePost w (parseS s) e w' :=
 parse_any s w hG hs fun k h=>forms_every k (formK_le h)
theorem GBuf.max {e:TypeId} {sz B:Nat} {w:World} {v:Value} {n:Nat} {xs:List Value} (h:GBuf e sz B w v n xs):n ≤ maxLen:=by
 rcases h.1.2 with ⟨-,rfl⟩ | ⟨g,cap,cur,rfl,hb2,hg,h1,h2,h3,h4⟩
 · exact Nat.zero_le _
 · exact Nat.le_trans h1 h2
theorem ItCells.at {B:Nat} {w:World}:∀ {l:List It} {xs:List Value} (h:ItCells B w l xs) {i:Nat} {it:It} (hi:l[i]? = some it),∃ sv,NBuf B w sv it.sec∧∀ (j:Nat) u,(itC it sv)[j]? = some u→xs[i * 6 + j]? = some u
 | [],_,_,i,it,hi=>by simp at hi
 | x :: l,xs,⟨sv,r,h1,h2,h3⟩,0,it,hi=>by
   simp at hi
   subst hi
   refine ⟨sv,h2,fun j u hu=>?_⟩
   rw [h1,Nat.zero_mul,Nat.zero_add,List.getElem?_append_left (by
    have:=(List.getElem?_eq_some_iff.1 hu).1
    exact this)]
   exact hu
 | x :: l,xs,⟨sv,r,h1,h2,h3⟩,i + 1,it,hi=>by
   obtain ⟨sv',h4,h5⟩:=ItCells.at h3 (i:=i) (it:=it) (by simpa using hi)
   refine ⟨sv',h4,fun j u hu=>?_⟩
   rw [h1,List.getElem?_append_right (by simp;omega)]
   rw [show (i + 1) * 6 + j - (itC x sv).length = i * 6 + j by simp;omega]
   exact h5 j u hu
theorem KyCells.at {B:Nat} {w:World}:∀ {l:List Ky} {xs:List Value} (h:KyCells B w l xs) {i:Nat} {k:Ky} (hi:l[i]? = some k),∃ sv,Sq.RBuf B w sv k.set∧∀ (j:Nat) u,(kyC k sv)[j]? = some u→xs[i * 5 + j]? = some u
 | [],_,_,i,it,hi=>by simp at hi
 | x :: l,xs,⟨sv,r,h1,h2,h3⟩,0,it,hi=>by
   simp at hi
   subst hi
   refine ⟨sv,h2,fun j u hu=>?_⟩
   rw [h1,Nat.zero_mul,Nat.zero_add,List.getElem?_append_left (by
    have:=(List.getElem?_eq_some_iff.1 hu).1
    exact this)]
   exact hu
 | x :: l,xs,⟨sv,r,h1,h2,h3⟩,i + 1,it,hi=>by
   obtain ⟨sv',h4,h5⟩:=KyCells.at h3 (i:=i) (k:=it) (by simpa using hi)
   refine ⟨sv',h4,fun j u hu=>?_⟩
   rw [h1,List.getElem?_append_right (by simp;omega)]
   rw [show (i + 1) * 5 + j - (kyC x sv).length = i * 5 + j by simp;omega]
   exact h5 j u hu
set_option maxHeartbeats 2000000 in
theorem sameItem_any {B1 B2:Nat} (it:It) (s1 s2:Value) (w:World) (h1:NBuf B1 w s1 it.sec) (h2:NBuf B2 w s2 it.sec) :
  Calls Tryz.prog 13 #[.agg #[.int .i64 it.kind,s1,.int .i64 it.what,.bool it.peek,.int .i64 it.frm,.int .i64 it.of],.agg #[.int .i64 it.kind,s2,.int .i64 it.what,.bool it.peek,.int .i64 it.frm,.int .i64 it.of]] w fun e w'=>e = .returned (.bool true)∧Below w.heap.size w w':=by
 have hmax:=h1.max
 obtain ⟨A1,c1,rfl,hc1,ha1,hs1⟩:=h1.full
 obtain ⟨A2,c2,rfl,hc2,ha2,hs2⟩:=h2.full
 obtain ⟨kd,sec,wh,pk,fr,of⟩:=it
 dsimp only at *
 have hlen:sec.length ≤ 9223372036854775807:=by unfold maxLen at hmax;omega
 obtain ⟨W,hW⟩:∃ W,W = (w.alloc (.cells #[.int .i64 kd,.slice A1 sec.length c1,.int .i64 wh,.bool pk,.int .i64 fr,.int .i64 of] 37)).alloc (.cells #[.int .i64 kd,.slice A2 sec.length c2,.int .i64 wh,.bool pk,.int .i64 fr,.int .i64 of] 37):=⟨_,rfl⟩
 have a2:Below w.heap.size w W:=by rw [hW];exact ((Below.refl _ _).alloc (Nat.le_refl _) _).alloc (by simp) _
 have b1:W.heap[w.heap.size]? = some (.cells #[.int .i64 kd,.slice A1 sec.length c1,.int .i64 wh,.bool pk,.int .i64 fr,.int .i64 of] 37 (0,0)):=by
  rw [hW]
  exact (((Below.refl (w.alloc _).heap.size (w.alloc _)).alloc (Nat.le_refl _) _).block w.heap.size (by simp)).trans (heap_alloc_new w _)
 have b2:W.heap[w.heap.size + 1]? = some (.cells #[.int .i64 kd,.slice A2 sec.length c2,.int .i64 wh,.bool pk,.int .i64 fr,.int .i64 of] 37 (0,0)):=by
  rw [hW]
  have:=heap_alloc_new (w.alloc (.cells #[.int .i64 kd,.slice A1 sec.length c1,.int .i64 wh,.bool pk,.int .i64 fr,.int .i64 of] 37)) (.cells #[.int .i64 kd,.slice A2 sec.length c2,.int .i64 wh,.bool pk,.int .i64 fr,.int .i64 of] 37)
  simpa using this
 have z1:W.cell? ⟨w.heap.size,1,none⟩ = some (.slice A1 sec.length c1):=by rw [cells_at b1];rfl
 have z2:W.cell? ⟨w.heap.size + 1,1,none⟩ = some (.slice A2 sec.length c2):=by rw [cells_at b2];rfl
 have A0:=hid a2
 have HW:=hid hW
 have n0:(kd != kd) = false:=by simp
 have n1:(wh != wh) = false:=by simp
 have n2:(pk != pk) = false:=by simp
 have n3:(fr != fr) = false:=by simp
 have n4:(of != of) = false:=by simp
 have n5:((sec.length:Int) != sec.length) = false:=by simp
 clear h1 h2 hmax a2 b1 b2 hW
 go_enter Tryz.func13,Tryz.ntmps13
 go_wp2_with fail
 rw [← HW.out]
 go_loopw [5] (fun v5 wr=>∃ i q:Nat,i ≤ sec.length∧v5 = .int .i64 i∧wr = W.drewN q) (fun v5 _=>sec.length - (intOf v5).toNat)
 case atStart=>exact ⟨0,0,Nat.zero_le _,rfl,rfl⟩
 case round =>
  obtain ⟨i,q,hi,rfl,rfl⟩:=hrel
  by_cases hil:i < sec.length
  · obtain ⟨n,hn⟩:∃ n,sec[i]? = some n:=⟨_,List.getElem?_eq_getElem hil⟩
    have hne:sec ≠ []:=fun h=>by rw [h] at hil;simp at hil
    obtain ⟨p1,rfl⟩:∃ p,A1 = some p:=by
     cases A1 with
     | none=>exact absurd (ha1 rfl).1 (by simpa using hne)
     | some p=>exact ⟨p,rfl⟩
    obtain ⟨p2,rfl⟩:∃ p,A2 = some p:=by
     cases A2 with
     | none=>exact absurd (ha2 rfl).1 (by simpa using hne)
     | some p=>exact ⟨p,rfl⟩
    obtain ⟨g1,rfl,-,k1⟩:=hs1 p1 rfl
    obtain ⟨g2,rfl,-,k2⟩:=hs2 p2 rfl
    have hu:(nv sec)[i]? = some (.int .i64 n):=by simp [nv,hn]
    have x1:=keep_below A0.out rfl (k1 i _ hu)
    have x2:=keep_below A0.out rfl (k2 i _ hu)
    have i0:(0:Int) ≤ (i:Int):=by omega
    have i1:(i:Int) < (sec.length:Int):=by omega
    have nn:(n != n) = false:=by simp
    clear hn hne k1 k2 hu hs1 hs2 ha1 ha2
    go_wp2_with fail
    go_quiet (fail)
    go_step
    go_step
    go_wp2_with fail
    go_roundw
    case rel=>exact ⟨i + 1,_,by omega,by go_num,rfl⟩
    case measure=>simp [intOf];omega
  · go_wp2_with fail
    go_ret
    exact ⟨rfl,A0.out.trans ⟨rfl,rfl,rfl,Nat.le_refl _,fun _ _=>rfl⟩⟩
end Go.Proofs.YtfdmdmahddjjmaaGreatDoor
namespace Go.Proofs.YtfdmdmahddjjmaaGreatDoor
open Go.RowKit Own Im
attribute [local go_sem] str_toList str_size
theorem below_dn {B:Nat} {w w2:World} (h:Below B w w2) (n:Nat):Below B w (w2.drewN n):=⟨h.os,h.tape,h.output,h.size,h.block⟩
set_option maxHeartbeats 1000000 in
theorem sq_same (A A2:Option Addr) (nn cc n2 c2:Nat) (l:List Rg) (w:World) (hs:Sq.SrcR w A l) (hs2:Sq.SrcR w A2 l) (hn:nn = l.length) (hn2:n2 = l.length) (hl:l.length ≤ 9223372036854775807) :
  Calls Tryz.prog 37 #[.slice A nn cc,.slice A2 n2 c2] w fun e w'=>e = .returned (.bool true)∧Below w.heap.size w w':=by
 subst hn hn2
 have HS:=hid hs
 have HS2:=hid hs2
 clear hs hs2
 go_enter Tryz.func37,Tryz.ntmps37
 go_wp2_with fail
 go_loopw [5] (fun v5 wr=>∃ i q:Nat,i ≤ l.length∧v5 = .int .i64 i∧wr = w.drewN q) (fun v5 _=>l.length - (intOf v5).toNat)
 case atStart=>exact ⟨0,0,Nat.zero_le _,rfl,rfl⟩
 case round =>
  obtain ⟨i,q,hi,rfl,rfl⟩:=hrel
  by_cases hil:i < l.length
  · obtain ⟨⟨a,b⟩,hab⟩:∃ r,l[i]? = some r:=⟨_,List.getElem?_eq_getElem hil⟩
    have hne:l ≠ []:=fun h=>by rw [h] at hil;simp at hil
    obtain ⟨bk,of,rfl⟩:=Sq.srcR_some HS.out hne
    obtain ⟨bk2,of2,rfl⟩:=Sq.srcR_some HS2.out hne
    obtain ⟨hx1,hx2⟩:=HS.out.at_ hab
    obtain ⟨hx3,hx4⟩:=HS2.out.at_ hab
    have i0:(0:Int) ≤ (i:Int):=by omega
    have i1:(i:Int) < (l.length:Int):=by omega
    clear hab hne
    go_wp2_with fail
    go_quiet (fail)
    go_step
    go_step
    go_wp2_with fail
    go_roundw
    case rel=>exact ⟨i + 1,_,by omega,by go_num,rfl⟩
    case measure=>simp [intOf];omega
  · go_wp2_with fail
    go_ret
    exact ⟨rfl,below_dn (Below.refl _ _) q⟩
theorem bodyB (x:Bt):(x == x) = true:=by simp
theorem GBuf.slots2 {e:TypeId} {sz B:Nat} {w:World} {A:Option Addr} {n0 c n:Nat} {xs:List Value} (h:GBuf e sz B w (.slice A n0 c) n xs):n0 = n∧(n ≠ 0→∃ g,A = some ⟨g,0,none⟩∧B ≤ g∧∀ (j:Nat) u,xs[j]? = some u→w.cell? ⟨g,j,none⟩ = some u):=by
 obtain ⟨A',c',hv,-,ha,hs⟩:=h.full
 injection hv with h1 h2 h3
 subst h1 h2
 refine ⟨rfl,fun hn=>?_⟩
 cases A with
 | none=>exact absurd (ha rfl).1 hn
 | some p =>
  obtain ⟨g,rfl,h3,h4⟩:=hs p rfl
  exact ⟨g,rfl,h3,h4⟩
theorem LBuf.src {B:Nat} {w:World} {A:Option Addr} {n c:Nat} {l:Bt} (h:LBuf B w (.slice A n c) l):n = l.length∧Src w A (bv l):=by
 obtain ⟨A',c',hv,-,ha,-,hs⟩:=h
 injection hv with h1 h2 h3
 subst h1 h2
 refine ⟨rfl,fun hn=>?_,fun p hp j u hu=>?_⟩
 · rw [ha hn];rfl
 · obtain ⟨g,cs,f,rfl,-,hb,hc⟩:=hs p hp
   rw [Addr.add_lit,cells_at hb,Nat.zero_add]
   exact hc j u hu
set_option maxHeartbeats 16000000 in
theorem rsame_any {B1 B2:Nat} (x:Cm) (v1 v2:CmV) (w:World) (h1:CmRows B1 w x v1) (h2:CmRows B2 w x v2) :
  Calls Tryz.prog 17 #[.agg (cmC x v1),.agg (cmC x v2)] w fun e w'=>e = .returned (.bool true)∧Below w.heap.size w w':=by
 obtain ⟨u1,u2,u3,u4,u5⟩:=v1
 have g1:Sq.RBuf B1 w u1 x.set:=h1.set
 have g2:SBuf B1 w u2 x.names:=h1.names
 obtain ⟨xs1,g3,ti1⟩:vItems B1 x.items u3 w:=h1.items
 obtain ⟨ys1,g4,ty1⟩:vKeys B1 x.keys u4 w:=h1.keys
 have g5:LBuf B1 w u5 x.lit:=h1.lit
 clear h1
 obtain ⟨A1,ca1,rfl,-,sA1⟩:=g1.full
 obtain ⟨N1,cn1,rfl,-⟩:=g2.full
 obtain ⟨I1,ci1,rfl,-⟩:=g3.full
 obtain ⟨Y1,cy1,rfl,-⟩:=g4.full
 obtain ⟨L1,cl1,rfl,-⟩:=g5.full
 have SN1:=hid (GBuf.slots2 g2)
 have SI1:=hid g3.slots2
 have SY1:=hid g4.slots2
 have SL1:=hid g5.src.2
 have SA1:=hid sA1
 have TI1:=hid ti1
 have TY1:=hid ty1
 have mn1:=GBuf.max g2
 have mi1:=g3.max
 have my1:=g4.max
 have ms1:=GBuf.max g1
 clear g1 g2 g3 g4 g5 sA1 ti1 ty1
 obtain ⟨u1,u2,u3,u4,u5⟩:=v2
 have g1:Sq.RBuf B2 w u1 x.set:=h2.set
 have g2:SBuf B2 w u2 x.names:=h2.names
 obtain ⟨xs2,g3,ti2⟩:vItems B2 x.items u3 w:=h2.items
 obtain ⟨ys2,g4,ty2⟩:vKeys B2 x.keys u4 w:=h2.keys
 have g5:LBuf B2 w u5 x.lit:=h2.lit
 clear h2
 obtain ⟨A2,ca2,rfl,-,sA2⟩:=g1.full
 obtain ⟨N2,cn2,rfl,-⟩:=g2.full
 obtain ⟨I2,ci2,rfl,-⟩:=g3.full
 obtain ⟨Y2,cy2,rfl,-⟩:=g4.full
 obtain ⟨L2,cl2,rfl,-⟩:=g5.full
 have SN2:=hid (GBuf.slots2 g2)
 have SI2:=hid g3.slots2
 have SY2:=hid g4.slots2
 have SL2:=hid g5.src.2
 have SA2:=hid sA2
 have TI2:=hid ti2
 have TY2:=hid ty2
 have mn2:=GBuf.max g2
 have mi2:=g3.max
 have my2:=g4.max
 have ms2:=GBuf.max g1
 clear g1 g2 g3 g4 g5 sA2 ti2 ty2
 unfold maxLen at mn1 mi1 my1 ms1
 clear mn2 mi2 my2 ms2
 obtain ⟨W,hW⟩:∃ W,W = (w.alloc (.cells (cmC x (⟨.slice A1 x.set.length ca1,.slice N1 x.names.length cn1,.slice I1 x.items.length ci1,.slice Y1 x.keys.length cy1,.slice L1 x.lit.length cl1⟩)) 30)).alloc (.cells (cmC x ⟨.slice A2 x.set.length ca2,.slice N2 x.names.length cn2,.slice I2 x.items.length ci2,.slice Y2 x.keys.length cy2,.slice L2 x.lit.length cl2⟩) 30):=⟨_,rfl⟩
 have a2:Below w.heap.size w W:=by rw [hW];exact ((Below.refl _ _).alloc (Nat.le_refl _) _).alloc (by simp) _
 have b1:CmAt W w.heap.size x ⟨.slice A1 x.set.length ca1,.slice N1 x.names.length cn1,.slice I1 x.items.length ci1,.slice Y1 x.keys.length cy1,.slice L1 x.lit.length cl1⟩:=by
  rw [hW]
  exact (((Below.refl (w.alloc _).heap.size (w.alloc _)).alloc (Nat.le_refl _) _).block w.heap.size (by simp)).trans (heap_alloc_new w _)
 have b2:CmAt W (w.heap.size + 1) x ⟨.slice A2 x.set.length ca2,.slice N2 x.names.length cn2,.slice I2 x.items.length ci2,.slice Y2 x.keys.length cy2,.slice L2 x.lit.length cl2⟩:=by
  rw [hW]
  exact two_new w _ _
 have A0:=hid a2
 have K1:=hid b1
 have K2:=hid b2
 have c3:=b1.c3
 have d3:=b2.c3
 clear a2 b1 b2
 go_enter Tryz.func17,Tryz.ntmps17
 go_upto_region 1 with fail
 rw [← hW]
 clear hW
 go_upto_region 2 with (go_at_call 37;refine (sq_same A1 A2 x.set.length ca1 x.set.length ca2 x.set _ (SA1.out.below A0.out) (SA2.out.below A0.out) rfl rfl ms1).mono ?_;rintro e w2 ⟨rfl,b2⟩;have k1:=K1.out.below b2;have k2:=K2.out.below b2;have D2:=hid (A0.out.trans (b2.mono A0.out.size));clear b2)
 have c0:=k1.c0
 have d0:=k2.c0
 have c1:=k1.c1
 have d1:=k2.c1
 have c2:=k1.c2
 have d2:=k2.c2
 have c4:=k1.c4
 have d4:=k2.c4
 have c5:=k1.c5
 have d5:=k2.c5
 have c6:=k1.c6
 have d6:=k2.c6
 have c7:=k1.c7
 have d7:=k2.c7
 have c8:=k1.c8
 have d8:=k2.c8
 have c9:=k1.c9
 have d9:=k2.c9
 have c10:=k1.c10
 have d10:=k2.c10
 have c11:=k1.c11
 have d11:=k2.c11
 have c12:=k1.c12
 have d12:=k2.c12
 have c13:=k1.c13
 have d13:=k2.c13
 have cv1:=conv_src (out:=x.lit) (SL1.out.below D2.out) x.lit.length cl1 rfl
 have cv2:=conv_src (out:=x.lit) (SL2.out.below D2.out) x.lit.length cl2 rfl
 have f0:=bodyB x.tag
 have f1:=bodyB x.word
 have f2:(x.uid != x.uid) = false:=by simp
 have f4:=bodyB x.box
 have f5:=bodyB x.dest
 have f7:((x.flags:Int) != (x.flags:Int)) = false:=by simp
 have f8:(x.mode != x.mode) = false:=by simp
 have f9:(x.silent != x.silent) = false:=by simp
 have f12:(x.date != x.date) = false:=by simp
 have f13:=bodyB x.lit
 have f6:((x.names.length:Int) != (x.names.length:Int)) = false:=by simp
 have f10:((x.items.length:Int) != (x.items.length:Int)) = false:=by simp
 have f11:((x.keys.length:Int) != (x.keys.length:Int)) = false:=by simp
 have H1:=hid k1
 have H2:=hid k2
 clear k1 k2
 go_wp2_with fail
 clear c0 d0 c1 d1 c2 d2 c4 d4 c5 d5 c6 d6 c7 d7 c8 d8 c9 d9 c10 d10 c11 d11 c12 d12 c13 d13 cv1 cv2 f0 f1 f2 f4 f5 f7 f8 f9 f12 f13 f6 f10 f11
 go_loopw [6] (fun v6 wr=>∃ i q:Nat,i ≤ x.names.length∧v6 = .int .i64 i∧wr = w2.drewN q) (fun v6 _=>x.names.length - (intOf v6).toNat)
 case atStart=>exact ⟨0,0,Nat.zero_le _,rfl,rfl⟩
 case round =>
  obtain ⟨i,q,hi,rfl,rfl⟩:=hrel
  have c6:=H1.out.c6
  have d6:=H2.out.c6
  by_cases hil:i < x.names.length
  · obtain ⟨y,hy⟩:∃ y,x.names[i]? = some y:=⟨_,List.getElem?_eq_getElem hil⟩
    obtain ⟨g1,rfl,-,hs1⟩:=SN1.out.2 (by omega)
    obtain ⟨g2,rfl,-,hs2⟩:=SN2.out.2 (by omega)
    have hu:(sv x.names)[i]? = some (.string (str y)):=by simp [sv,hy]
    have x1:=keep_below D2.out rfl (hs1 i _ hu)
    have x2:=keep_below D2.out rfl (hs2 i _ hu)
    have i0:(0:Int) ≤ (i:Int):=by omega
    have i1:(i:Int) < (x.names.length:Int):=by omega
    have nn:=bodyB y
    clear hy hu hs1 hs2
    go_wp2_with fail
    go_quiet (fail)
    go_step
    go_step
    go_wp2_with fail
    go_roundw
    case rel=>exact ⟨i + 1,_,by omega,by go_num,rfl⟩
    case measure=>simp [intOf];omega
  · obtain rfl:i = x.names.length:=by omega
    go_wp2_with fail
    clear c6 d6
    go_loopw [7] (fun v7 wr=>∃ i:Nat,i ≤ x.items.length∧v7 = .int .i64 i∧Below w2.heap.size w2 wr) (fun v7 _=>x.items.length - (intOf v7).toNat)
    case atStart=>exact ⟨0,Nat.zero_le _,rfl,below_dn (Below.refl _ _) q⟩
    case round =>
     obtain ⟨i,hi,rfl,hb⟩:=hrel
     have HB:=hid hb
     have c10:=(H1.out.below hb).c10
     have d10:=(H2.out.below hb).c10
     have E2:=hid (D2.out.trans (hb.mono D2.out.size))
     clear hb
     by_cases hil:i < x.items.length
     · obtain ⟨it,hit⟩:∃ it,x.items[i]? = some it:=⟨_,List.getElem?_eq_getElem hil⟩
       obtain ⟨g1,rfl,-,hs1⟩:=SI1.out.2 (by omega)
       obtain ⟨g2,rfl,-,hs2⟩:=SI2.out.2 (by omega)
       obtain ⟨sv1,r1,t1⟩:=TI1.out.at hit
       obtain ⟨sv2,r2,t2⟩:=TI2.out.at hit
       obtain ⟨Z1,m1,rfl,-⟩:=r1.full
       obtain ⟨Z2,m2,rfl,-⟩:=r2.full
       have P1:=fun j u hu=>keep_below E2.out rfl (hs1 (i * 6 + j) u (t1 j u hu))
       have P2:=fun j u hu=>keep_below E2.out rfl (hs2 (i * 6 + j) u (t2 j u hu))
       have p0:wr.cell? ⟨g1,i * 6,none⟩ = some (.int .i64 it.kind):=P1 0 _ rfl
       have p1:wr.cell? ⟨g1,i * 6 + 1,none⟩ = some (.slice Z1 it.sec.length m1):=P1 1 _ rfl
       have p2:wr.cell? ⟨g1,i * 6 + 2,none⟩ = some (.int .i64 it.what):=P1 2 _ rfl
       have p3:wr.cell? ⟨g1,i * 6 + 3,none⟩ = some (.bool it.peek):=P1 3 _ rfl
       have p4:wr.cell? ⟨g1,i * 6 + 4,none⟩ = some (.int .i64 it.frm):=P1 4 _ rfl
       have p5:wr.cell? ⟨g1,i * 6 + 5,none⟩ = some (.int .i64 it.of):=P1 5 _ rfl
       have q0:wr.cell? ⟨g2,i * 6,none⟩ = some (.int .i64 it.kind):=P2 0 _ rfl
       have q1:wr.cell? ⟨g2,i * 6 + 1,none⟩ = some (.slice Z2 it.sec.length m2):=P2 1 _ rfl
       have q2:wr.cell? ⟨g2,i * 6 + 2,none⟩ = some (.int .i64 it.what):=P2 2 _ rfl
       have q3:wr.cell? ⟨g2,i * 6 + 3,none⟩ = some (.bool it.peek):=P2 3 _ rfl
       have q4:wr.cell? ⟨g2,i * 6 + 4,none⟩ = some (.int .i64 it.frm):=P2 4 _ rfl
       have q5:wr.cell? ⟨g2,i * 6 + 5,none⟩ = some (.int .i64 it.of):=P2 5 _ rfl
       have NB1:=hid (r1.stays (Below.stays E2.out))
       have NB2:=hid (r2.stays (Below.stays E2.out))
       have i0:(0:Int) ≤ (i:Int):=by omega
       have i1:(i:Int) < (x.items.length:Int):=by omega
       clear P1 P2 hs1 hs2 t1 t2 r1 r2 hit
       go_wp2_with fail
       refine wp_region_held_drew (S:=fun w'=>Below wr.heap.size wr w') (by kernel_rfl) (Below.refl _ _).drew (fun hHeld=>?_)
       refine wpAnyH_take (i:=0) (oi:=_) (v:=?va0) rfl (by kernel_rfl) (by kernel_rfl) (by kernel_rfl) (fun _ _ _ h=>h) (Or.inl ⟨by rfl,?ya0⟩) (by assumption) ?ra0
       case ya0=>(intro w hSw;(try dsimp only at hSw);go_simp;try with_reducible rfl)
       try simp only [sxa,sxb,sxc,Act.put,sxd,sxe,sxf]
       refine wpAnyH_take (i:=1) (oi:=_) (v:=?va1) rfl (by kernel_rfl) (by kernel_rfl) (by kernel_rfl) (fun _ _ _ h=>h) (Or.inl ⟨by rfl,?ya1⟩) (by assumption) ?ra1
       case ya1=>(intro w hSw;(try dsimp only at hSw);have z0_:=keep_below hSw rfl c10;go_simp;try with_reducible rfl)
       try simp only [sxa,sxb,sxc,Act.put,sxd,sxe,sxf]
       refine wpAnyH_take (i:=2) (oi:=_) (v:=?va2) rfl (by kernel_rfl) (by kernel_rfl) (by kernel_rfl) (fun _ _ _ h=>h) (Or.inl ⟨by rfl,?ya2⟩) (by assumption) ?ra2
       case ya2=>(intro w hSw;(try dsimp only at hSw);go_simp;try with_reducible rfl)
       try simp only [sxa,sxb,sxc,Act.put,sxd,sxe,sxf]
       refine wpAnyH_take (i:=3) (oi:=_) (v:=?va3) rfl (by kernel_rfl) (by kernel_rfl) (by kernel_rfl) (fun _ _ _ h=>h) (Or.inl ⟨by rfl,?ya3⟩) (by assumption) ?ra3
       case ya3=>(intro w hSw;(try dsimp only at hSw);go_simp;try with_reducible rfl)
       try simp only [sxa,sxb,sxc,Act.put,sxd,sxe,sxf]
       refine wpAnyH_take (i:=4) (oi:=_) (v:=?va4) rfl (by kernel_rfl) (by kernel_rfl) (by kernel_rfl) (fun _ _ _ h=>h) (Or.inl ⟨by rfl,?ya4⟩) (by assumption) ?ra4
       case ya4=>(intro w hSw;(try dsimp only at hSw);have z0_:=keep_below hSw rfl p0;have z1_:=keep_below hSw rfl p1;have z2_:=keep_below hSw rfl p2;have z3_:=keep_below hSw rfl p3;have z4_:=keep_below hSw rfl p4;have z5_:=keep_below hSw rfl p5;go_simp;try with_reducible rfl)
       try simp only [sxa,sxb,sxc,Act.put,sxd,sxe,sxf]
       refine wpAnyH_take (i:=5) (oi:=_) (v:=?va5) rfl (by kernel_rfl) (by kernel_rfl) (by kernel_rfl) (fun _ _ _ h=>h) (Or.inl ⟨by rfl,?ya5⟩) (by assumption) ?ra5
       case ya5=>(intro w hSw;(try dsimp only at hSw);go_simp;try with_reducible rfl)
       try simp only [sxa,sxb,sxc,Act.put,sxd,sxe,sxf]
       refine wpAnyH_take (i:=6) (oi:=_) (v:=?va6) rfl (by kernel_rfl) (by kernel_rfl) (by kernel_rfl) (fun _ _ _ h=>h) (Or.inl ⟨by rfl,?ya6⟩) (by assumption) ?ra6
       case ya6=>(intro w hSw;(try dsimp only at hSw);have z0_:=keep_below hSw rfl d10;go_simp;try with_reducible rfl)
       try simp only [sxa,sxb,sxc,Act.put,sxd,sxe,sxf]
       refine wpAnyH_take (i:=7) (oi:=_) (v:=?va7) rfl (by kernel_rfl) (by kernel_rfl) (by kernel_rfl) (fun _ _ _ h=>h) (Or.inl ⟨by rfl,?ya7⟩) (by assumption) ?ra7
       case ya7=>(intro w hSw;(try dsimp only at hSw);go_simp;try with_reducible rfl)
       try simp only [sxa,sxb,sxc,Act.put,sxd,sxe,sxf]
       refine wpAnyH_take (i:=8) (oi:=_) (v:=?va8) rfl (by kernel_rfl) (by kernel_rfl) (by kernel_rfl) (fun _ _ _ h=>h) (Or.inl ⟨by rfl,?ya8⟩) (by assumption) ?ra8
       case ya8=>(intro w hSw;(try dsimp only at hSw);go_simp;try with_reducible rfl)
       try simp only [sxa,sxb,sxc,Act.put,sxd,sxe,sxf]
       refine wpAnyH_take (i:=9) (oi:=_) (v:=?va9) rfl (by kernel_rfl) (by kernel_rfl) (by kernel_rfl) (fun _ _ _ h=>h) (Or.inl ⟨by rfl,?ya9⟩) (by assumption) ?ra9
       case ya9=>(intro w hSw;(try dsimp only at hSw);have z0_:=keep_below hSw rfl q0;have z1_:=keep_below hSw rfl q1;have z2_:=keep_below hSw rfl q2;have z3_:=keep_below hSw rfl q3;have z4_:=keep_below hSw rfl q4;have z5_:=keep_below hSw rfl q5;go_simp;try with_reducible rfl)
       try simp only [sxa,sxb,sxc,Act.put,sxd,sxe,sxf]
       refine wpAnyH_ready (rs:=[10]) (by kernel_rfl) (by simp) ?_
       refine AllReadyH.cons (o:=_) rfl (fun K hK=>?_) AllReadyH.nil
       go_simp
       refine (sameItem_any it _ _ _ (NB1.out.stays (Below.stays (Below.refl _ _).drew)) (NB2.out.stays (Below.stays (Below.refl _ _).drew))).mono ?_
       rintro e w12 ⟨rfl,b12⟩
       have B12:Hid (Below wr.heap.size wr w12):=hid ((Below.refl _ _).drew.trans b12)
       clear b12
       go_wp2_with fail
       refine hK.out _ _ ?hsz (fun hHeld2=>?_)
       case hsz=>exact B12.out
       clear hK K hHeld
       have hHeld:=hHeld2
       clear hHeld2
       try simp only [sxa,sxb,sxc,Act.put,sxd,sxe,sxf]
       refine wpAnyH_take (i:=11) (oi:=_) (v:=?vb11) rfl (by kernel_rfl) (by kernel_rfl) (by kernel_rfl) (fun _ _ _ h=>h) (Or.inl ⟨by rfl,?yb11⟩) (by assumption) ?rb11
       case yb11=>(intro w hSw;(try dsimp only at hSw);go_simp;try with_reducible rfl)
       try simp only [sxa,sxb,sxc,Act.put,sxd,sxe,sxf]
       refine wpAnyH_done (by kernel_rfl) ?_ _
       go_wp2_with fail
       go_roundw
       case rel=>exact ⟨i + 1,by omega,by go_num,HB.out.trans (B12.out.mono HB.out.size)⟩
       case measure=>simp [intOf];omega
     · obtain rfl:i = x.items.length:=by omega
       go_wp2_with fail
       clear c10 d10
       go_loopw [8] (fun v8 wx=>∃ i:Nat,i ≤ x.keys.length∧v8 = .int .i64 i∧Below w2.heap.size w2 wx) (fun v8 _=>x.keys.length - (intOf v8).toNat)
       case atStart=>exact ⟨0,Nat.zero_le _,rfl,HB.out⟩
       case round =>
        clear HB E2
        obtain ⟨i,hi,rfl,hb⟩:=hrel
        have HB:=hid hb
        have c11:=(H1.out.below hb).c11
        have d11:=(H2.out.below hb).c11
        have E2:=hid (D2.out.trans (hb.mono D2.out.size))
        clear hb
        by_cases hil:i < x.keys.length
        · obtain ⟨ky,hky⟩:∃ ky,x.keys[i]? = some ky:=⟨_,List.getElem?_eq_getElem hil⟩
          obtain ⟨g1,rfl,-,hs1⟩:=SY1.out.2 (by omega)
          obtain ⟨g2,rfl,-,hs2⟩:=SY2.out.2 (by omega)
          obtain ⟨sv1,r1,t1⟩:=TY1.out.at hky
          obtain ⟨sv2,r2,t2⟩:=TY2.out.at hky
          have mk:=GBuf.max r1
          unfold maxLen at mk
          obtain ⟨Z1,m1,rfl,-,sr1⟩:=r1.full
          obtain ⟨Z2,m2,rfl,-,sr2⟩:=r2.full
          have P1:=fun j u hu=>keep_below E2.out rfl (hs1 (i * 5 + j) u (t1 j u hu))
          have P2:=fun j u hu=>keep_below E2.out rfl (hs2 (i * 5 + j) u (t2 j u hu))
          have p0:wr.cell? ⟨g1,i * 5,none⟩ = some (.int .i64 ky.kind):=P1 0 _ rfl
          have p1:wr.cell? ⟨g1,i * 5 + 1,none⟩ = some (.bool ky.not):=P1 1 _ rfl
          have p2:wr.cell? ⟨g1,i * 5 + 2,none⟩ = some (.string (str ky.text)):=P1 2 _ rfl
          have p3:wr.cell? ⟨g1,i * 5 + 3,none⟩ = some (.int .i64 ky.n):=P1 3 _ rfl
          have p4:wr.cell? ⟨g1,i * 5 + 4,none⟩ = some (.slice Z1 ky.set.length m1):=P1 4 _ rfl
          have q0:wr.cell? ⟨g2,i * 5,none⟩ = some (.int .i64 ky.kind):=P2 0 _ rfl
          have q1:wr.cell? ⟨g2,i * 5 + 1,none⟩ = some (.bool ky.not):=P2 1 _ rfl
          have q2:wr.cell? ⟨g2,i * 5 + 2,none⟩ = some (.string (str ky.text)):=P2 2 _ rfl
          have q3:wr.cell? ⟨g2,i * 5 + 3,none⟩ = some (.int .i64 ky.n):=P2 3 _ rfl
          have q4:wr.cell? ⟨g2,i * 5 + 4,none⟩ = some (.slice Z2 ky.set.length m2):=P2 4 _ rfl
          have i0:(0:Int) ≤ (i:Int):=by omega
          have i1:(i:Int) < (x.keys.length:Int):=by omega
          have d11':=fun ob=>keep_below ((Below.refl wr.heap.size wr).alloc (Nat.le_refl _) ob) rfl d11
          have q0':=fun ob=>keep_below ((Below.refl wr.heap.size wr).alloc (Nat.le_refl _) ob) rfl q0
          have q1':=fun ob=>keep_below ((Below.refl wr.heap.size wr).alloc (Nat.le_refl _) ob) rfl q1
          have q2':=fun ob=>keep_below ((Below.refl wr.heap.size wr).alloc (Nat.le_refl _) ob) rfl q2
          have q3':=fun ob=>keep_below ((Below.refl wr.heap.size wr).alloc (Nat.le_refl _) ob) rfl q3
          have q4':=fun ob=>keep_below ((Below.refl wr.heap.size wr).alloc (Nat.le_refl _) ob) rfl q4
          obtain ⟨W3,hW3⟩:∃ X,X = (wr.alloc (.cells #[.int .i64 ky.kind,.bool ky.not,.string (str ky.text),.int .i64 ky.n,.slice Z1 ky.set.length m1] 39)).alloc (.cells #[.int .i64 ky.kind,.bool ky.not,.string (str ky.text),.int .i64 ky.n,.slice Z2 ky.set.length m2] 39):=⟨_,rfl⟩
          have a3:Below wr.heap.size wr W3:=by rw [hW3];exact ((Below.refl _ _).alloc (Nat.le_refl _) _).alloc (by simp) _
          have e1:W3.heap[wr.heap.size]? = some (.cells #[.int .i64 ky.kind,.bool ky.not,.string (str ky.text),.int .i64 ky.n,.slice Z1 ky.set.length m1] 39 (0,0)):=by
           rw [hW3]
           exact (((Below.refl (wr.alloc _).heap.size (wr.alloc _)).alloc (Nat.le_refl _) _).block wr.heap.size (by simp)).trans (heap_alloc_new wr _)
          have e2:W3.heap[wr.heap.size + 1]? = some (.cells #[.int .i64 ky.kind,.bool ky.not,.string (str ky.text),.int .i64 ky.n,.slice Z2 ky.set.length m2] 39 (0,0)):=by
           rw [hW3]
           exact two_new wr _ _
          have SR1:=hid ((sr1.below E2.out).below a3)
          have SR2:=hid ((sr2.below E2.out).below a3)
          have A3:=hid a3
          have h0:(ky.kind != ky.kind) = false:=by simp
          have h1:(ky.not != ky.not) = false:=by simp
          have h2:=bodyB ky.text
          have h3:(ky.n != ky.n) = false:=by simp
          have E1:=hid e1
          have E3:=hid e2
          clear P1 P2 hs1 hs2 t1 t2 r1 r2 hky a3 e1 e2 sr1 sr2
          go_upto_region 19 with fail
          rw [← hW3]
          clear hW3
          have x0:W3.cell? ⟨wr.heap.size,0,none⟩ = some (.int .i64 ky.kind):=by rw [cells_at E1.out];rfl
          have x1:W3.cell? ⟨wr.heap.size,1,none⟩ = some (.bool ky.not):=by rw [cells_at E1.out];rfl
          have x2:W3.cell? ⟨wr.heap.size,2,none⟩ = some (.string (str ky.text)):=by rw [cells_at E1.out];rfl
          have x3:W3.cell? ⟨wr.heap.size,3,none⟩ = some (.int .i64 ky.n):=by rw [cells_at E1.out];rfl
          have x4:W3.cell? ⟨wr.heap.size,4,none⟩ = some (.slice Z1 ky.set.length m1):=by rw [cells_at E1.out];rfl
          have z0:W3.cell? ⟨wr.heap.size + 1,0,none⟩ = some (.int .i64 ky.kind):=by rw [cells_at E3.out];rfl
          have z1:W3.cell? ⟨wr.heap.size + 1,1,none⟩ = some (.bool ky.not):=by rw [cells_at E3.out];rfl
          have z2:W3.cell? ⟨wr.heap.size + 1,2,none⟩ = some (.string (str ky.text)):=by rw [cells_at E3.out];rfl
          have z3:W3.cell? ⟨wr.heap.size + 1,3,none⟩ = some (.int .i64 ky.n):=by rw [cells_at E3.out];rfl
          have z4:W3.cell? ⟨wr.heap.size + 1,4,none⟩ = some (.slice Z2 ky.set.length m2):=by rw [cells_at E3.out];rfl
          go_wp2_with (go_at_call 37;refine (sq_same Z1 Z2 ky.set.length m1 ky.set.length m2 ky.set _ SR1.out SR2.out rfl rfl mk).mono ?_;rintro e w9 ⟨rfl,b9⟩;have B9:=hid (A3.out.trans (b9.mono A3.out.size));clear b9)
          go_roundw
          case rel=>exact ⟨i + 1,by omega,by go_num,HB.out.trans (B9.out.mono HB.out.size)⟩
          case measure=>simp [intOf];omega
        · go_wp2_with fail
          go_ret
          exact ⟨rfl,E2.out⟩
end Go.Proofs.YtfdmdmahddjjmaaGreatDoor
