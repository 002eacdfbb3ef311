/-
  Joined texts: SqRSplit SqRParse.
-/
import Derived.Test.YtfdmdmahddjjmaaGreatDoorPkSq
set_option linter.unusedVariables false
set_option linter.unusedSimpArgs false
set_option maxRecDepth 100000
namespace Go.Proofs.YtfdmdmahddjjmaaGreatDoor.Sq
open Go.RowKit Own Dec Sq
theorem info_string:(Tryz.prog.info? 9).map (fun i=>(i.zero,i.size,i.bytes)) = some (some (.string ByteArray.empty),1,16):=by kernel_rfl
def sv (l:List (List UInt8)):List Value:=l.map fun s=>.string (str s)
theorem sv_append (l m:List (List UInt8)):sv (l ++ m) = sv l ++ sv m:=by simp [sv]
theorem sv_one (l:List (List UInt8)):∀ u ∈ sv l,u.oneCell' = true:=by
 intro u hu
 simp only [sv,List.mem_map] at hu
 obtain ⟨r,_,rfl⟩:=hu
 rfl
def SBuf (B:Nat) (w:World) (v:Value) (l:List (List UInt8)):Prop:=GBuf 9 1 B w v l.length (sv l)
theorem SBuf.keep {B:Nat} {w w':World} {v:Value} {l:List (List UInt8)} (h:SBuf B w v l) (hb:Below w.heap.size w w'):SBuf B w' v l:=GBuf.keep h hb
theorem SBuf.alloc {B:Nat} {w:World} {v:Value} {l:List (List UInt8)} (h:SBuf B w v l) (o:Obj):SBuf B (w.alloc o) v l:=GBuf.alloc h o
theorem SBuf.mono {B B2:Nat} {w:World} {v:Value} {l:List (List UInt8)} (h:SBuf B2 w v l) (hB:B ≤ B2):SBuf B w v l:=GBuf.mono h hB
theorem SBuf.nil {B:Nat} {w:World} (h:B ≤ w.heap.size):SBuf B w (.slice none 0 0) []:=GBuf.nil h
theorem SBuf.full {B:Nat} {w:World} {v:Value} {l:List (List UInt8)} (h:SBuf B w v l):∃ A c,v = .slice A l.length c∧l.length ≤ c∧(A = none→l = [])∧∀ p,A = some p→∃ g,p = ⟨g,0,none⟩∧B ≤ g∧∀ j x,l[j]? = some x→w.cell? ⟨g,j,none⟩ = some (.string (str x)):=by
 obtain ⟨A,c,hv,hc,h1,h2⟩:=GBuf.full h
 refine ⟨A,c,hv,hc,(fun ha=>List.eq_nil_of_length_eq_zero (h1 ha).1),fun p hp=>?_⟩
 obtain ⟨g,rfl,hg,hcell⟩:=h2 p hp
 exact ⟨g,rfl,hg,fun j x hx=>hcell j _ (by simp [sv,hx])⟩
theorem slit (w:World) (x:List UInt8) (cs:Array Value) (fr:Nat × Nat) (n:Nat) (hn:n = w.heap.size) (h:cs.toList = sv [x]):∀ j u,(sv [x])[j]? = some u→(w.alloc (.cells cs 9 fr)).cell? ((⟨n,0,none⟩:Addr).add j) = some u:=by
 rw [← h]
 exact lit_cells w cs _ fr n hn
theorem wpList_sbuf {ops:Array Oper} {rest:List Oper} {o:Oper} {a:Act} {Q:Exit→Act→World→Prop} (B:Nat) (w:World) (hgd:o.guard = none) (s x:Operand)
  (ho:o.op = .call { callee:=.builtin .append,args:=#[s,x],argTypes:=#[25,25] }) (v:Value) (l:List (List UInt8)) (r:List UInt8) (hs:a.eval s = v) (hbuf:SBuf B w v l)
  (ad:Addr) (c:Nat) (hx:a.eval x = .slice (some ad) 1 c) (hnews:∀ j u,(sv [r])[j]? = some u→w.cell? (ad.add j) = some u) (hlen:l.length ≤ 1000000000)
  (h:∀ v' w',SBuf B w' v' (l ++ [r])→Below B w w'→wpList Tryz.prog ops Q rest (a.put o.dst v') w'):wpList Tryz.prog ops Q (o :: rest) a w:=by
 refine wpList_gbuf B w hgd s x 25 9 1 16 _ ho Tryz.underlying25 info_string rfl (by decide) v l.length (sv l) hs hbuf ad 1 c (sv [r]) hx rfl hnews (sv_one [r]) (by unfold maxLen;omega) (by omega) ?_
 intro v' w' h1 h2
 refine h v' w' ?_ h2
 unfold SBuf
 rw [sv_append,List.length_append]
 exact h1
theorem str_cut2 (l:List UInt8) (i j:Nat):(str l).extract i j = str ((l.take j).drop i):=by
 apply ByteArray.ext
 apply Array.ext'
 simp [str,ByteArray.data_extract,Array.toList_extract,List.extract_eq_take_drop,List.drop_take]
attribute [local go_sem] str_toList str_size
set_option maxHeartbeats 2000000 in
theorem rsplit_any (c:UInt8) (l:List UInt8) (w:World) (hl:l.length ≤ 100000000) :
  Calls Tryz.prog 141 #[.string (str l),.int .u8 c.toNat] w fun e w'=>∃ v,e = .returned v∧SBuf w.heap.size w' v (Spl.splitL c l)∧Below w.heap.size w w':=by
 have hsz:=str_size l
 go_enter Tryz.func141,Tryz.ntmps141
 go_wp2_with fail
 go_loopw [5,6,7] (fun v5 v6 v7 wr=>∃ (fr i:Nat) (o:List (List UInt8)),fr ≤ i∧i ≤ l.length + 1∧v6 = .int .i64 fr∧v7 = .int .i64 i∧(i ≤ l.length→o ++ Spl.splitL c (l.drop fr) = Spl.splitL c l∧c ∉ (l.drop fr).take (i - fr))∧(l.length < i→o = Spl.splitL c l)∧o.length ≤ i∧SBuf w.heap.size wr v5 o∧Below w.heap.size w wr) (fun _ _ v7 _=>l.length + 1 - (intOf v7).toNat)
 case atStart=>exact ⟨0,0,[],Nat.le_refl _,by omega,rfl,rfl,fun _=>⟨rfl,by simp⟩,fun h=>by omega,by simp,SBuf.nil (Nat.le_refl _),Below.refl _ _⟩
 case round =>
  obtain ⟨fr,i,o,hfi,hi,rfl,rfl,h1,h2,hoi,hbuf,hbel⟩:=hrel
  have HBUF:=hid hbuf
  have HBE:=hid hbel
  clear hbuf hbel
  by_cases hle:i ≤ l.length
  · have e1:decide ((i:Int) ≤ (l.length:Int)) = true:=decide_eq_true (by omega)
    obtain ⟨hsp,hno⟩:=h1 hle
    have hx:(str l).extract fr i = str ((l.drop fr).take (i - fr)):=by rw [str_cut2,List.drop_take]
    have HSP:=hid hsp
    have HNO:=hid hno
    clear h1 h2 hsp hno
    by_cases hil:i < l.length
    · have e2:((i:Int) == (l.length:Int)) = false:=by rw [beq_eq_false_iff_ne];omega
      obtain ⟨x,hxx⟩:∃ x,x = l[i]:=⟨_,rfl⟩
      have hix:∀ hh,(str l)[i]'hh = x:=by intro hh;rw [hxx];rfl
      have hdr:l.drop i = x :: l.drop (i + 1):=by rw [List.drop_eq_getElem_cons hil,hxx]
      have hdf:l.drop fr = (l.drop fr).take (i - fr) ++ x :: l.drop (i + 1):=by
       rw [← hdr]
       have:l.drop i = (l.drop fr).drop (i - fr):=by rw [List.drop_drop,show fr + (i - fr) = i by omega]
       rw [this,List.take_append_drop]
      have HDF:=hid hdf
      have hcs:(∃ h:x = c,True)∨x ≠ c:=by by_cases h:x = c;exact .inl ⟨h,trivial⟩;exact .inr h
      clear hxx hdr hdf
      rcases hcs with ⟨hxc,-⟩ | hxc
      · have e3:((x.toNat:Int) == (c.toNat:Int)) = true:=by rw [hxc];simp
        have hsp2:o ++ [(l.drop fr).take (i - fr)] ++ Spl.splitL c (l.drop (i + 1)) = Spl.splitL c l:=by
         have:=HSP.out
         rw [HDF.out,hxc,Spl.splitL_at _ HNO.out] at this
         rw [List.append_assoc];exact this
        have HSP2:=hid hsp2
        clear hxc hsp2 HSP HNO HDF
        generalize (l.drop fr).take (i - fr) = piece at *
        go_wp2_with ((at_builtin;refine wpList_sbuf w.heap.size _ rfl _ _ rfl u5 o piece rfl (HBUF.out.alloc _) _ 1 rfl (slit _ piece _ _ _ rfl (by first | rfl | rw [hx];rfl)) (by omega) ?_;intro v' w1 hr1 hb1))
        go_roundw
        case rel=>exact ⟨i + 1,i + 1,o ++ [piece],Nat.le_refl _,by omega,by go_num,by go_num,fun _=>⟨HSP2.out,by simp⟩,fun h=>by omega,by simp;omega,hr1,(HBE.out.alloc HBUF.out.2 _).trans hb1⟩
        case measure=>simp [intOf];omega
      · have e3:((x.toNat:Int) == (c.toNat:Int)) = false:=by
          rw [beq_eq_false_iff_ne];intro h;exact hxc (UInt8.toNat_inj.mp (by omega))
        have hno2:c ∉ (l.drop fr).take (i + 1 - fr):=by
         have e:(l.drop fr).take (i + 1 - fr) = (l.drop fr).take (i - fr) ++ [x]:=by
          conv=>lhs;rw [HDF.out]
          rw [show i + 1 - fr = ((l.drop fr).take (i - fr)).length + 1 by simp;omega,List.take_length_add_append]
          rfl
         rw [e]
         intro hm
         rcases List.mem_append.1 hm with h | h
         · exact HNO.out h
         · exact hxc (List.mem_singleton.1 h).symm
        have HNO2:=hid hno2
        clear hxc hno2 HNO HDF hx
        go_wp2_with fail
        go_roundw
        case rel=>exact ⟨fr,i + 1,o,by omega,by omega,rfl,by go_num,fun _=>⟨HSP.out,HNO2.out⟩,fun h=>by omega,by omega,HBUF.out,HBE.out⟩
        case measure=>simp [intOf];omega
    · have hie:i = l.length:=by omega
      have e2:((i:Int) == (l.length:Int)) = true:=by rw [beq_iff_eq];omega
      have hfull:(l.drop fr).take (i - fr) = l.drop fr:=List.take_of_length_le (by simp;omega)
      have hsp2:o ++ [(l.drop fr).take (i - fr)] = Spl.splitL c l:=by
       have h3:=HNO.out
       rw [hfull] at h3 ⊢
       rw [← HSP.out,Spl.splitL_none h3]
      have HSP2:=hid hsp2
      have HIE:=hid hie
      clear hsp2 HSP HNO hie hfull
      generalize (l.drop fr).take (i - fr) = piece at *
      go_wp2_with ((at_builtin;refine wpList_sbuf w.heap.size _ rfl _ _ rfl u5 o piece rfl (HBUF.out.alloc _) _ 1 rfl (slit _ piece _ _ _ rfl (by first | rfl | rw [hx];rfl)) (by omega) ?_;intro v' w1 hr1 hb1))
      go_roundw
      case rel=>exact ⟨i + 1,i + 1,o ++ [piece],Nat.le_refl _,by omega,by go_num,by go_num,fun h=>by have:=HIE.out;omega,fun _=>HSP2.out,by simp;omega,hr1,(HBE.out.alloc HBUF.out.2 _).trans hb1⟩
      case measure=>simp [intOf];omega
  · have e1:decide ((i:Int) ≤ (l.length:Int)) = false:=decide_eq_false (by omega)
    have ho:=h2 (by omega)
    have HO:=hid ho
    clear h1 h2 ho
    go_wp2_with fail
    go_ret
    exact ⟨_,rfl,by rw [← HO.out];exact HBUF.out,HBE.out⟩
end Go.Proofs.YtfdmdmahddjjmaaGreatDoor.Sq
namespace Go.Proofs.YtfdmdmahddjjmaaGreatDoor.Sq
open Go.RowKit Own Dec Sq
namespace Sq
theorem numS_colon {b:List UInt8} (h:(58:UInt8) ∈ b):(numS b).2 = false:=by
 unfold numS
 rw [if_neg (by rintro rfl;simp at h),numR_other b _ (fun hd=>by have:=hd 58 h;unfold isDig at this;exact absurd this.2 (by decide))]
 rfl
theorem partS_one {x:List UInt8} (h:(58:UInt8) ∉ x):partS x = if (numS x).2 = true then some ((numS x).1,(numS x).1) else none:=by
 unfold partS
 rw [Spl.cut_none h]
 cases h2:(numS x).2 <;> simp [h2]
theorem partS_two {a b:List UInt8} (h:(58:UInt8) ∉ a):partS (a ++ 58 :: b) = if ((numS a).2 && (numS b).2) = true then some ((numS a).1,(numS b).1) else none:=by
 unfold partS
 rw [Spl.cut_at b h]
 cases h2:(numS a).2 <;> cases h3:(numS b).2 <;> simp [h2,h3]
theorem ends_of (x:List UInt8):(∃ n,Spl.splitL 58 x = [n]∧n = x∧partS x = if (numS n).2 = true then some ((numS n).1,(numS n).1) else none) ∨
  (∃ a b,Spl.splitL 58 x = [a,b]∧a.length ≤ x.length∧b.length ≤ x.length∧partS x = if ((numS a).2 && (numS b).2) = true then some ((numS a).1,(numS b).1) else none) ∨
  (∃ a b c r,Spl.splitL 58 x = a :: b :: c :: r∧a.length ≤ x.length∧partS x = none):=by
 rcases Spl.first 58 x with h | ⟨a,b,rfl,h⟩
 · exact .inl ⟨x,Spl.splitL_none h,rfl,partS_one h⟩
 · rcases Spl.first 58 b with h2 | ⟨b1,b2,rfl,h2⟩
   · exact .inr (.inl ⟨a,b,by rw [Spl.splitL_at b h,Spl.splitL_none h2],by simp,by simp;omega,partS_two h⟩)
   · obtain ⟨c,r,hcr⟩:∃ c r,Spl.splitL 58 b2 = c :: r:=by
       cases hc:Spl.splitL 58 b2 with
       | nil=>exact absurd hc (Spl.splitL_ne 58 b2)
       | cons c r=>exact ⟨c,r,rfl⟩
     exact .inr (.inr ⟨a,b1,c,r,by rw [Spl.splitL_at _ h,Spl.splitL_at b2 h2,hcr],by simp,by rw [partS_two h,numS_colon (b:=b1 ++ 58 :: b2) (by simp)];simp⟩)
end Sq
set_option maxHeartbeats 4000000 in
theorem rparse_any (l:List UInt8) (w:World) (hl:l.length ≤ 100000000) :
  Calls Tryz.prog 111 #[.string (str l)] w fun e w'=>∃ v,e = .returned (.tuple #[v,.int .i64 (parseS l).2])∧RBuf w.heap.size w' v (parseS l).1∧Below w.heap.size w w':=by
 have hsp:=rsplit_any 44 l w hl
 have hple:=Spl.splitL_len 44 l
 have hpp:=Spl.splitL_parts 44 l
 have hpne:=Spl.splitL_ne 44 l
 obtain ⟨R,E,hRE⟩:∃ R E,parseS l = (R,E):=⟨_,_,rfl⟩
 have hre:parseV (partsS (Spl.splitL 44 l)) = (R,E):=hRE
 rw [hRE]
 obtain ⟨ps,hps⟩:∃ ps,ps = Spl.splitL 44 l:=⟨_,rfl⟩
 rw [← hps] at hsp hple hpp hre hpne
 have HRE:=hid hre
 have HPP:=hid hpp
 have hsp1:Calls Tryz.prog 141 #[.string (str l),.int .u8 44] w fun e w'=>∃ g c,e = .returned (.slice (some ⟨g,0,none⟩) ps.length c)∧ps.length ≤ c∧(∀ j x,ps[j]? = some x→w'.cell? ⟨g,j,none⟩ = some (.string (str x)))∧Below w.heap.size w w':=by
  refine hsp.mono ?_
  rintro e w' ⟨v,rfl,hb,hbel⟩
  obtain ⟨A,c,rfl,hc,h1,h2⟩:=hb.full
  cases A with
  | none=>exact absurd (h1 rfl) hpne
  | some p =>
   obtain ⟨g,rfl,_,hcell⟩:=h2 p rfl
   exact ⟨g,c,rfl,hc,hcell,hbel⟩
 clear hRE hps hre hpp hsp hpne
 go_enter Tryz.func111,Tryz.ntmps111
 go_wp2_with (go_at_call 141;refine hsp1.mono ?_;rintro e w1 ⟨g,gc,rfl,hgc,hs1,c1⟩;have S1:=hid hs1;have b1:=hid c1;clear hs1 c1)
 go_loopw [5,6] (fun v5 v6 wr=>∃ (i:Nat) (o:List Rg),i ≤ ps.length∧v6 = .int .i64 i∧(partsS (ps.drop i)).map (fun x=>o ++ x) = partsS ps∧o.length ≤ i∧RBuf w1.heap.size wr v5 o∧Below w.heap.size w wr∧Below w1.heap.size w1 wr) (fun _ v6 _=>ps.length - (intOf v6).toNat)
 case atStart=>exact ⟨0,[],Nat.zero_le _,rfl,by simp,by simp,RBuf.nil (Nat.le_refl _),b1.out,Below.refl _ _⟩
 case round =>
  obtain ⟨i,o,hi,rfl,hpr,hoi,hbuf,hbel,hbel1⟩:=hrel
  have HPR:=hid hpr
  have HBUF:=hid hbuf
  have HBE:=hid hbel
  have HBE1:=hid hbel1
  by_cases hil:i < ps.length
  · obtain ⟨x,hx⟩:∃ x,ps[i]? = some x:=⟨_,List.getElem?_eq_getElem hil⟩
    have hcell0:=S1.out i x hx
    have hcell:=keep_below hbel1 rfl hcell0
    have hdr:ps.drop i = x :: ps.drop (i + 1):=by
     obtain ⟨h1,h2⟩:=List.getElem?_eq_some_iff.1 hx
     rw [List.drop_eq_getElem_cons hil,h2]
    have hxl:=(HPP.out x (List.mem_of_getElem? hx)).2
    have hspx:=rsplit_any 58 x wr (by omega)
    have hxne:=Spl.splitL_ne 58 x
    have HDR:=hid hdr
    have hend:=ends_of x
    have hesl:=Spl.splitL_len 58 x
    obtain ⟨es,hes⟩:∃ es,es = Spl.splitL 58 x:=⟨_,rfl⟩
    rw [← hes] at hspx hxne hend hesl
    have hesb:es.length ≤ 100000001:=by omega
    have hsp2:Calls Tryz.prog 141 #[.string (str x),.int .u8 58] wr fun e w'=>∃ g c,e = .returned (.slice (some ⟨g,0,none⟩) es.length c)∧es.length ≤ c∧(∀ j x,es[j]? = some x→w'.cell? ⟨g,j,none⟩ = some (.string (str x)))∧Below wr.heap.size wr w':=by
     refine hspx.mono ?_
     rintro e w' ⟨v,rfl,hb,hbel⟩
     obtain ⟨A,c,rfl,hc,h1,h2⟩:=hb.full
     cases A with
     | none=>exact absurd (h1 rfl) hxne
     | some p =>
      obtain ⟨g,rfl,_,hcell⟩:=h2 p rfl
      exact ⟨g,c,rfl,hc,hcell,hbel⟩
    clear hesl hes hspx hxne hx hdr hcell0 hbuf hbel hbel1 hpr
    rcases hend with ⟨n,rfl,hnx,hp⟩ | ⟨a,b,rfl,hla,hlb,hp⟩ | ⟨a,b,c,r,rfl,hla,hp⟩
    · subst hnx
      have hnum1:=fun W=>rnumS_any n W (by omega)
      obtain ⟨n1,b1',hn1⟩:∃ n1 b,numS n = (n1,b):=⟨_,_,rfl⟩
      rw [hn1] at hnum1 hp
      dsimp only at hnum1 hp
      have e1:decide (2 < (([n]:List (List UInt8)).length:Int)) = false:=rfl
      have e2:((([n]:List (List UInt8)).length:Int) == 2) = false:=rfl
      clear hn1
      simp only [List.length_cons,List.length_nil] at hsp2
      cases b1' with
      | true =>
       rw [if_pos rfl] at hp
       have hpr:=HPR.out
       rw [HDR.out,partsS_some _ hp] at hpr
       have hpr2:(partsS (ps.drop (i + 1))).map (fun x=>(o ++ [(n1,n1)]) ++ x) = partsS ps:=by
        rw [← hpr]
        cases partsS (ps.drop (i + 1)) <;> simp
       have HPR2:=hid hpr2
       clear hpr hpr2 hp
       go_wp2_with (first
        | (go_at_call 141;refine hsp2.mono ?_;rintro e w2 ⟨g2,gc2,rfl,hgc2,hs2,c2⟩;have hy1:=hs2 0 _ rfl;have b2:=hid (below_then HBE.out c2);have d2:=hid (below_then HBE1.out c2);have H2:=hid (HBUF.out.keep c2);clear hs2 c2)
        | (go_at_call 142;refine (hnum1 _).mono ?_;rintro e w3 ⟨rfl,c3⟩;have b3:=hid (below_then b2.out c3);have d3:=hid (below_then d2.out c3);have H3:=hid (H2.out.keep c3);clear c3)
        | (at_builtin;refine wpList_rbuf w1.heap.size _ rfl _ _ rfl u5 o (n1,n1) rfl (H3.out.alloc _) _ 1 rfl (rlit _ (n1,n1) _ _ _ rfl rfl) (by omega) ?_;intro v' w5 hr5 hb5))
       go_roundw
       case rel=>exact ⟨i + 1,o ++ [(n1,n1)],by omega,by go_num,HPR2.out,by simp;omega,hr5,(b3.out.alloc b3.out.size _).trans (hb5.mono b1.out.size),(d3.out.alloc d3.out.size _).trans hb5⟩
       case measure=>simp [intOf];omega
      | false =>
       rw [if_neg (by simp)] at hp
       have hpr:=HPR.out
       rw [HDR.out,partsS_none _ hp] at hpr
       have hre:=HRE.out
       rw [← hpr] at hre
       have he:R = []∧E = 190:=by
        have h2:(([]:List Rg),(190:Int)) = (R,E):=hre
        simp only [Prod.mk.injEq] at h2
        exact ⟨h2.1.symm,h2.2.symm⟩
       have HE:=hid he
       clear hpr hre he hp
       go_wp2_with (first
        | (go_at_call 141;refine hsp2.mono ?_;rintro e w2 ⟨g2,gc2,rfl,hgc2,hs2,c2⟩;have hy1:=hs2 0 _ rfl;have b2:=hid (below_then HBE.out c2);have d2:=hid (below_then HBE1.out c2);have H2:=hid (HBUF.out.keep c2);clear hs2 c2)
        | (go_at_call 142;refine (hnum1 _).mono ?_;rintro e w3 ⟨rfl,c3⟩;have b3:=hid (below_then b2.out c3);have d3:=hid (below_then d2.out c3);have H3:=hid (H2.out.keep c3);clear c3))
       exact bodyPost_ret (v:=.tuple #[.slice none 0 0,.int .i64 190]) (by simp [results,Tryz.results111,go_sem]) rfl ⟨_,by rw [HE.out.2],by rw [HE.out.1];exact RBuf.nil b3.out.size,b3.out⟩
    · have hnum1:=fun W=>rnumS_any a W (by omega)
      have hnum2:=fun W=>rnumS_any b W (by omega)
      obtain ⟨n1,b1',hn1⟩:∃ n1 b,numS a = (n1,b):=⟨_,_,rfl⟩
      obtain ⟨n2,b2',hn2⟩:∃ n1 c,numS b = (n1,c):=⟨_,_,rfl⟩
      rw [hn1] at hnum1 hp
      rw [hn2] at hnum2 hp
      dsimp only at hnum1 hnum2 hp
      clear hn1 hn2
      simp only [List.length_cons,List.length_nil] at hsp2
      have tok0:Tk 0:=⟨⟩
      cases b1'
      · rw [Bool.false_and,if_neg (by simp)] at hp
        have hpr:=HPR.out
        rw [HDR.out,partsS_none _ hp] at hpr
        have hre:=HRE.out
        rw [← hpr] at hre
        have he:R = []∧E = 190:=by
         have h2:(([]:List Rg),(190:Int)) = (R,E):=hre
         simp only [Prod.mk.injEq] at h2
         exact ⟨h2.1.symm,h2.2.symm⟩
        have HE:=hid he
        clear hpr hre he hp
        go_wp2_with (first
         | (go_at_call 141;refine hsp2.mono ?_;rintro e w2 ⟨g2,gc2,rfl,hgc2,hs2,c2⟩;have hy1:=hs2 0 _ rfl;have hy2:=hs2 1 _ rfl;have b2:=hid (below_then HBE.out c2);have d2:=hid (below_then HBE1.out c2);have H2:=hid (HBUF.out.keep c2);clear hs2 c2)
             | (go_at_call 142;have t_:Tk 0:=‹Tk 0›;refine (hnum1 _).mono ?_;rintro e w3 ⟨rfl,c3⟩;have hz2:=keep_below c3 rfl hy2;have b3:=hid (below_then b2.out c3);have d3:=hid (below_then d2.out c3);have H3:=hid (H2.out.keep c3);clear c3;clear t_;clear tok0;have tok1:Tk 1:=⟨⟩)
             | (go_at_call 142;have t_:Tk 1:=‹Tk 1›;refine (hnum2 _).mono ?_;rintro e w4 ⟨rfl,c4⟩;have b4:=hid (below_then b3.out c4);have d4:=hid (below_then d3.out c4);have H4:=hid (H3.out.keep c4);clear c4;clear t_;clear tok1;have tok2:Tk 2:=⟨⟩))
        exact bodyPost_ret (v:=.tuple #[.slice none 0 0,.int .i64 190]) (by simp [results,Tryz.results111,go_sem]) rfl ⟨_,by rw [HE.out.2],by rw [HE.out.1];exact RBuf.nil b4.out.size,b4.out⟩
      · cases b2'
        · rw [Bool.and_false,if_neg (by simp)] at hp
          have hpr:=HPR.out
          rw [HDR.out,partsS_none _ hp] at hpr
          have hre:=HRE.out
          rw [← hpr] at hre
          have he:R = []∧E = 190:=by
           have h2:(([]:List Rg),(190:Int)) = (R,E):=hre
           simp only [Prod.mk.injEq] at h2
           exact ⟨h2.1.symm,h2.2.symm⟩
          have HE:=hid he
          clear hpr hre he hp
          go_wp2_with (first
           | (go_at_call 141;refine hsp2.mono ?_;rintro e w2 ⟨g2,gc2,rfl,hgc2,hs2,c2⟩;have hy1:=hs2 0 _ rfl;have hy2:=hs2 1 _ rfl;have b2:=hid (below_then HBE.out c2);have d2:=hid (below_then HBE1.out c2);have H2:=hid (HBUF.out.keep c2);clear hs2 c2)
             | (go_at_call 142;have t_:Tk 0:=‹Tk 0›;refine (hnum1 _).mono ?_;rintro e w3 ⟨rfl,c3⟩;have hz2:=keep_below c3 rfl hy2;have b3:=hid (below_then b2.out c3);have d3:=hid (below_then d2.out c3);have H3:=hid (H2.out.keep c3);clear c3;clear t_;clear tok0;have tok1:Tk 1:=⟨⟩)
             | (go_at_call 142;have t_:Tk 1:=‹Tk 1›;refine (hnum2 _).mono ?_;rintro e w4 ⟨rfl,c4⟩;have b4:=hid (below_then b3.out c4);have d4:=hid (below_then d3.out c4);have H4:=hid (H3.out.keep c4);clear c4;clear t_;clear tok1;have tok2:Tk 2:=⟨⟩))
          exact bodyPost_ret (v:=.tuple #[.slice none 0 0,.int .i64 190]) (by simp [results,Tryz.results111,go_sem]) rfl ⟨_,by rw [HE.out.2],by rw [HE.out.1];exact RBuf.nil b4.out.size,b4.out⟩
        · rw [Bool.and_true,if_pos rfl] at hp
          have hpr:=HPR.out
          rw [HDR.out,partsS_some _ hp] at hpr
          have hpr2:(partsS (ps.drop (i + 1))).map (fun x=>(o ++ [(n1,n2)]) ++ x) = partsS ps:=by
           rw [← hpr]
           cases partsS (ps.drop (i + 1)) <;> simp
          have HPR2:=hid hpr2
          clear hpr hpr2 hp
          go_wp2_with (first
           | (go_at_call 141;refine hsp2.mono ?_;rintro e w2 ⟨g2,gc2,rfl,hgc2,hs2,c2⟩;have hy1:=hs2 0 _ rfl;have hy2:=hs2 1 _ rfl;have b2:=hid (below_then HBE.out c2);have d2:=hid (below_then HBE1.out c2);have H2:=hid (HBUF.out.keep c2);clear hs2 c2)
             | (go_at_call 142;have t_:Tk 0:=‹Tk 0›;refine (hnum1 _).mono ?_;rintro e w3 ⟨rfl,c3⟩;have hz2:=keep_below c3 rfl hy2;have b3:=hid (below_then b2.out c3);have d3:=hid (below_then d2.out c3);have H3:=hid (H2.out.keep c3);clear c3;clear t_;clear tok0;have tok1:Tk 1:=⟨⟩)
             | (go_at_call 142;have t_:Tk 1:=‹Tk 1›;refine (hnum2 _).mono ?_;rintro e w4 ⟨rfl,c4⟩;have b4:=hid (below_then b3.out c4);have d4:=hid (below_then d3.out c4);have H4:=hid (H3.out.keep c4);clear c4;clear t_;clear tok1;have tok2:Tk 2:=⟨⟩)
             | (at_builtin;refine wpList_rbuf w1.heap.size _ rfl _ _ rfl u5 o (n1,n2) rfl (H4.out.alloc _) _ 1 rfl (rlit _ (n1,n2) _ _ _ rfl rfl) (by omega) ?_;intro v' w5 hr5 hb5))
          go_roundw
          case rel=>exact ⟨i + 1,o ++ [(n1,n2)],by omega,by go_num,HPR2.out,by simp;omega,hr5,(b4.out.alloc b4.out.size _).trans (hb5.mono b1.out.size),(d4.out.alloc d4.out.size _).trans hb5⟩
          case measure=>simp [intOf];omega
    · have hnum1:=fun W=>rnumS_any a W (by omega)
      obtain ⟨n1,b1',hn1⟩:∃ n1 b,numS a = (n1,b):=⟨_,_,rfl⟩
      rw [hn1] at hnum1
      dsimp only at hnum1
      clear hn1
      simp only [List.length_cons] at hsp2
      have hr0:2 < r.length + 1 + 1 + 1:=by omega
      have e2:(((r.length:Int) + 1 + 1 + 1) == 2) = false:=by rw [beq_eq_false_iff_ne];omega
      have hrb:r.length ≤ 100000000:=by simp at hesb;omega
      clear hesb
      have hpr:=HPR.out
      rw [HDR.out,partsS_none _ hp] at hpr
      have hre:=HRE.out
      rw [← hpr] at hre
      have he:R = []∧E = 190:=by
       have h2:(([]:List Rg),(190:Int)) = (R,E):=hre
       simp only [Prod.mk.injEq] at h2
       exact ⟨h2.1.symm,h2.2.symm⟩
      have HE:=hid he
      clear hpr hre he hp
      go_wp2_with (first
       | (go_at_call 141;refine hsp2.mono ?_;rintro e w2 ⟨g2,gc2,rfl,hgc2,hs2,c2⟩;have hy1:=hs2 0 _ rfl;have b2:=hid (below_then HBE.out c2);have d2:=hid (below_then HBE1.out c2);have H2:=hid (HBUF.out.keep c2);clear hs2 c2)
       | (go_at_call 142;refine (hnum1 _).mono ?_;rintro e w3 ⟨rfl,c3⟩;have b3:=hid (below_then b2.out c3);have d3:=hid (below_then d2.out c3);have H3:=hid (H2.out.keep c3);clear c3))
      exact bodyPost_ret (v:=.tuple #[.slice none 0 0,.int .i64 190]) (by simp [results,Tryz.results111,go_sem]) rfl ⟨_,by rw [HE.out.2],by rw [HE.out.1];exact RBuf.nil b3.out.size,b3.out⟩
  · obtain rfl:i = ps.length:=by omega
    have hpr:=HPR.out
    rw [List.drop_length] at hpr
    have hpo:partsS ps = some o:=by rw [← hpr];simp [partsS]
    have hre:=HRE.out
    rw [hpo] at hre
    have hre2:(if 16 < o.length then (([]:List Rg),(5:Int)) else (o,0)) = (R,E):=hre
    have ho:=hoi
    obtain ⟨Av,cv,rfl,hcv,-⟩:=HBUF.out.full
    clear hpr hpo hre hbuf hbel hbel1 hil hi hcv
    by_cases h16:16 < o.length
    · rw [if_pos h16] at hre2
      simp only [Prod.mk.injEq] at hre2
      have HE:=hid (And.intro hre2.1.symm hre2.2.symm)
      clear hre2
      go_wp2_with fail
      exact bodyPost_ret (v:=.tuple #[.slice none 0 0,.int .i64 5]) (by simp [results,Tryz.results111,go_sem]) rfl ⟨_,by rw [HE.out.2],by rw [HE.out.1];exact RBuf.nil HBE.out.size,HBE.out⟩
    · rw [if_neg h16] at hre2
      simp only [Prod.mk.injEq] at hre2
      have HE:=hid (And.intro hre2.1.symm hre2.2.symm)
      clear hre2
      go_wp2_with fail
      exact bodyPost_ret (v:=.tuple #[.slice Av o.length cv,.int .i64 0]) (by simp [results,Tryz.results111,go_sem]) rfl ⟨_,by rw [HE.out.2],by rw [HE.out.1];exact HBUF.out.mono b1.out.size,HBE.out⟩
end Go.Proofs.YtfdmdmahddjjmaaGreatDoor.Sq
